/-
Own texts of the proof, merged: part 2.
-/
import Derived.Test.YtckcgppnppiccaaDoorPkRulesGiveA
import Derived.WideAt
import Derived.Test.YtckcgppnppiccaaDoorPvZ
import Derived.Test.YtckcgppnppiccaaDoorPvL
import Derived.HandedShaped
namespace Go.Proofs.YtckcgppnppiccaaDoorPv
open Go
set_option linter.unusedSimpArgs false
set_option linter.unusedVariables false
set_option maxHeartbeats 4000000
set_option maxRecDepth 8000
attribute [local go_sem ↓] e_mv e_pick e_bin e_eqs e_beq e_un e_cvi e_str e_s2b e_b2s e_box e_build e_bsl e_ld e_st e_nck e_mkf e_slcS e_slcL e_fa e_fld e_ia e_iaa e_ix e_ixa e_ext e_lenS e_lenL e_mnmx e_app e_appb e_bbx e_msl e_clr e_call e_callv e_slcA e_mkm e_mput e_mget e_mlen e_mdel pa_t pa_c pa_f slcSP_str hiOf_some hiOf_none loOf_some loOf_none set_eq set_ne
attribute [local go_sem] pv pv1 simple frOf_0 frOf_1 frOf_2 frOf_3 frOf_4 frOf_5 ne_eq not_false_eq_true if_true Bool.false_eq_true if_false pbin punary Option.map_some Option.bind_some pick_and pick_or opt_true Bool.true_and Bool.and_self Bool.and_true Bool.true_or Bool.false_or Bool.not_true Bool.not_false callE pcall_eq List.map_cons List.map_nil List.append_nil List.nil_append List.cons_append mapM_cons' mapM_nil' dep_eq fz_sc fz_sl fz_em fz_fn fz_fp fz_agg fz_tu fz_bx fz_ob Nat.lt_irrefl Nat.zero_lt_one Nat.lt_add_one flat clL cl Bool.or_true okc_sc okc_em okc_sl okc_ob okc_bx okc_fp okc_fn okc_agg okc_ifc cells_agg cells_sc cells_sl cells_em cells_ob cells_fn cells_bx cells_fp List.length_cons List.length_nil Nat.zero_add and_self true_and and_true new_m new_c put_m put_c nil_m nil_c nil_mm new_mm put_mm newM_m newM_c newM_mm putM_m putM_c putM_mm mkeyV_1 mkeyV_2 mapAt_eq deref List.getElem?_cons_zero List.getElem?_cons_succ List.drop_zero List.drop_succ_cons List.take_succ_cons List.take_zero Nat.le_refl false_and and_false decide_true decide_false lenP_em lenP_nil lenP_sl lenP_ob Int.ofNat_zero
def d116 : Def := (.code 2 [.tmp 4, .tmp 5] (.seq (.rg false [⟨.some 4, .none, .mv (.c (.slice .none 0 0))⟩, ⟨.some 5, .none, .mv (.c (.int .i64 0))⟩]) (.seq (.seq (.rg false [⟨.some 9, .none, .mv (.t 0)⟩, ⟨.some 10, .none, .call 113 .pure [.t 9]⟩, ⟨.some 11, .none, .un .not (.t 10)⟩, ⟨.some 12, .none, .mv (.t 11)⟩, ⟨.some 13, .some (12, false), .mv (.t 1)⟩, ⟨.some 14, .some (12, false), .call 113 .pure [.t 13]⟩, ⟨.some 15, .some (12, false), .un .not (.t 14)⟩, ⟨.some 16, .none, .pick (.t 12) (.c (.bool true)) (.t 15)⟩]) (.cond (.t 16) (.seq (.rg false [⟨.some 4, .none, .mv (.c (.slice .none 0 0))⟩, ⟨.some 5, .none, .mv (.c (.int .i64 1))⟩]) .ret) .skip)) (.seq (.rg false [⟨.some 17, .none, .mv (.t 1)⟩, ⟨.some 18, .none, .call 128 .opn [.t 17]⟩, ⟨.some 6, .none, .mv (.t 18)⟩]) (.seq (.seq (.rg false [⟨.some 19, .none, .mv (.t 0)⟩, ⟨.some 20, .none, .lenL (.t 19)⟩, ⟨.some 21, .none, .mv (.c (.int .i64 0))⟩]) (.block 0 (.loop (.seq (.rg false [⟨.some 22, .none, .bin .lss (.t 21) (.t 20)⟩]) (.seq (.cond (.t 22) .skip (.exit 0)) (.seq (.block 1 (.seq (.rg false [⟨.some 23, .none, .ia 2 (.t 19) (.t 21)⟩, ⟨.some 24, .none, .ld (.some 2) (.t 23)⟩, ⟨.some 8, .none, .box (.c (.agg #[.string ⟨#[]⟩, .string ⟨#[]⟩]))⟩, ⟨.none, .none, .st 2 (.t 8) (.t 24)⟩]) (.seq (.rg false [⟨.some 25, .none, .mv (.t 1)⟩, ⟨.some 26, .none, .fa 0 (.t 8)⟩, ⟨.some 27, .none, .ld .none (.t 26)⟩, ⟨.some 28, .none, .call 114 .pure [.t 25, .t 27]⟩, ⟨.some 29, .none, .bin .eql (.t 28) (.c (.string ⟨#[]⟩))⟩]) (.cond (.t 29) (.rg false [⟨.some 30, .none, .mv (.t 6)⟩, ⟨.some 31, .none, .ld (.some 2) (.t 8)⟩, ⟨.some 32, .none, .bsl 2 (.agg #[.string ⟨#[]⟩, .string ⟨#[]⟩]) 1 [(0, .t 31)]⟩, ⟨.some 33, .none, .app 2 32 false (.t 30) (.t 32)⟩, ⟨.some 6, .none, .mv (.t 33)⟩]) .skip)))) (.rg false [⟨.some 34, .none, .bin .add (.t 21) (.c (.int .i64 1))⟩, ⟨.some 21, .none, .mv (.t 34)⟩]))))))) (.seq (.rg false [⟨.some 35, .none, .mv (.t 6)⟩, ⟨.some 36, .none, .call 129 .pure [.t 35]⟩, ⟨.some 37, .none, .ext (.t 36) 0⟩, ⟨.some 38, .none, .ext (.t 36) 1⟩, ⟨.some 4, .none, .mv (.t 37)⟩, ⟨.some 5, .none, .mv (.t 38)⟩]) .ret))))))
def d109 : Def := (.code 2 [.tmp 4, .tmp 5] (.seq (.rg false [⟨.some 2, .none, .box (.t 0)⟩, ⟨.some 4, .none, .mv (.c (.slice .none 0 0))⟩, ⟨.some 5, .none, .mv (.c (.int .i64 0))⟩]) (.seq (.seq (.rg false [⟨.some 8, .none, .ld (.some 8) (.t 2)⟩, ⟨.some 9, .none, .call 105 .pure [.t 8]⟩, ⟨.some 10, .none, .un .not (.t 9)⟩]) (.cond (.t 10) (.seq (.rg false [⟨.some 4, .none, .mv (.c (.slice .none 0 0))⟩, ⟨.some 5, .none, .mv (.c (.int .i64 1))⟩]) .ret) .skip)) (.seq (.rg false [⟨.some 12, .none, .mv (.t 1)⟩, ⟨.some 13, .none, .fa 7 (.t 2)⟩, ⟨.some 14, .none, .ld .none (.t 13)⟩, ⟨.some 15, .none, .call 116 .pure [.t 12, .t 14]⟩, ⟨.some 11, .none, .mv (.t 15)⟩, ⟨.some 16, .none, .ext (.t 11) 0⟩, ⟨.some 17, .none, .ext (.t 11) 1⟩, ⟨.some 6, .none, .mv (.t 16)⟩, ⟨.some 7, .none, .mv (.t 17)⟩]) (.seq (.seq (.rg false [⟨.some 18, .none, .mv (.t 7)⟩, ⟨.some 19, .none, .bin .neq (.t 18) (.c (.int .i64 0))⟩]) (.cond (.t 19) (.seq (.rg false [⟨.some 20, .none, .mv (.t 7)⟩, ⟨.some 4, .none, .mv (.c (.slice .none 0 0))⟩, ⟨.some 5, .none, .mv (.t 20)⟩]) .ret) .skip)) (.seq (.rg false [⟨.some 21, .none, .mv (.t 6)⟩, ⟨.some 22, .none, .fa 0 (.t 2)⟩, ⟨.some 23, .none, .ld .none (.t 22)⟩, ⟨.some 24, .none, .build (.agg #[.string ⟨#[]⟩, .string ⟨#[]⟩]) [(0, (1, .c (.string ⟨#[97, 108, 101, 114, 116]⟩))), (1, (1, .t 23))]⟩, ⟨.some 25, .none, .bsl 2 (.agg #[.string ⟨#[]⟩, .string ⟨#[]⟩]) 1 [(0, .t 24)]⟩, ⟨.some 26, .none, .call 116 .pure [.t 21, .t 25]⟩, ⟨.some 27, .none, .ext (.t 26) 0⟩, ⟨.some 28, .none, .ext (.t 26) 1⟩, ⟨.some 4, .none, .mv (.t 27)⟩, ⟨.some 5, .none, .mv (.t 28)⟩]) .ret))))))
def lq : List (Nat × Def) := [(116, d116), (109, d109), (128, .prim (cloneF 2 32))]
def lq0 : List (Nat × Def) := [(116, d116), (128, .prim (cloneF 2 32))]
theorem lq_lq0 {env : Nat → Option Def} (H : Has lq env) : Has lq0 env := fun p hp => H p (by
  simp only [lq0, List.mem_cons, List.not_mem_nil, or_false] at hp
  rcases hp with rfl | rfl <;> simp [lq])
section
variable {env : Nat → Option Def} {fr : Fr} {σ : St} {K : Fr → St → Prop} {Q : X → Fr → St → Prop}
theorem a128 (V : Has lq0 env) {l : List Lab} (hn : l.length ≤ 1000000) : ∃ r σ', EV env 128 [.sl (labs l)] σ = some (r, σ') ∧ Gat σ' [7] 2 true r (labs l) := by
  have h := V (128, .prim (cloneF 2 32)) (by simp [lq0])
  have hall : ((labs l).all fun y => okc y && (cellsOf y).length == 2) = true := by
    rw [List.all_eq_true]
    intro x hx
    simp only [labs, List.mem_map] at hx
    obtain ⟨m, _, rfl⟩ := hx
    rfl
  have hb : decide ((labs l).length * 32 ≤ 70368744177664) = true := decide_eq_true (by rw [labs_len]; omega)
  cases hl : labs l with
  | nil =>
    exact ⟨.em, σ, EV_of (n := 1) (by simp only [evF, h]; rfl), .em⟩
  | cons x r =>
    refine ⟨.ob 7 (σ.c 7) 2 0 (labs l).length, σ.new 7 ⟨2, labs l, true, true⟩, EV_of (n := 1) ?_, .inr ⟨7, σ.c 7, true, by simp, by rw [hl], by rw [← hl]; simp [new_m], by simp [new_c], by simp, fun _ => rfl⟩⟩
    rw [← hl]
    have he : (labs l).isEmpty = false := by rw [hl]; rfl
    simp only [evF, h, cloneF, hall, hb, he, Bool.and_self, if_true, Bool.false_eq_true, if_false]
theorem right_len {l : List Lab} (h : rightL l = true) : l.length ≤ 8 := by
  unfold rightL at h
  simp only [Bool.and_eq_true, decide_eq_true_eq] at h
  omega
theorem right_smalls {l : List Lab} (h : rightL l = true) : Smalls l := by
  intro m hm
  obtain ⟨i, hi⟩ := List.getElem?_of_mem hm
  have hlt := (List.getElem?_eq_some_iff.1 hi).1
  have hmay := rightL_may h hlt
  have hn : nth l i = m := by unfold nth; rw [hi]; rfl
  rw [hn] at hmay
  unfold mayB nameB valueB at hmay
  simp only [Bool.and_eq_true, decide_eq_true_eq] at hmay
  unfold Small
  omega
def missB (over : List Lab) (m : Lab) : Bool := (getB over m.1).toList == (⟨#[]⟩ : ByteArray).toList
def overL (l over : List Lab) : List Lab := over ++ l.filter (missB over)
def withL (l over : List Lab) : List Lab × Int := if !rightL l || !rightL over then ([], 1) else newL (overL l over)
theorem overL_smalls {l over : List Lab} (h1 : Smalls l) (h2 : Smalls over) : Smalls (overL l over) := by
  intro m hm
  simp only [overL, List.mem_append, List.mem_filter] at hm
  rcases hm with hm | hm
  · exact h2 m hm
  · exact h1 m hm.1
theorem overL_len (l over : List Lab) : (overL l over).length ≤ over.length + l.length := by
  simp only [overL, List.length_append]
  have := List.length_filter_le (missB over) l
  omega
theorem a116 (H : Has la0 env) (G : Has lc env) (O : Has lo env) (P : Has lp env) (V : Has lq0 env) (B : Bits env) {l over : List Lab} (hn : l.length ≤ 9223372036854775807) (hl : Smalls l) (hn' : over.length ≤ 9223372036854775807) (hl' : Smalls over) :
    AV env 116 [.sl (labs l), .sl (labs over)] = some (.tu [.sl (labs (withL l over).1), .sc (.int .i64 (withL l over).2)]) := by
  have hll := labs_len l
  have h1 := a113 H G hn hl
  have h2 := a113 H G hn' hl'
  refine AV_wp (V (116, d116) (by simp [lq0])) rfl ?_
  (repeat' first
    | refine w_seq ?_ | refine w_rg ?_ | refine wo_nil ?_ | refine g_skU ?_ | refine g_skT ?_ | refine g_skF ?_
    | ((first | apply s_plain | apply s_void | apply s_guard | apply g_goT | apply g_goF); · simp only [go_sem, Nat.reduceEqDiff, Nat.reduceAdd, Nat.reduceLeDiff, h1, h2]; (first | done | rfl))
    | ((first | apply g_T | apply g_F | apply g_gT | apply g_gF); · intro q1_; (first | intro q2_ | have q2_ := q1_); simp only [go_sem, Nat.reduceEqDiff, Nat.reduceAdd, Nat.reduceLeDiff, h1, h2, q1_, q2_]; (first | done | rfl))
    | fail
    )
  cases hb : (!rightL l || !rightL over) with
  | true =>
    (repeat' first
    | refine w_seq ?_ | refine w_rg ?_ | refine wo_nil ?_ | refine g_skU ?_ | refine g_skT ?_ | refine g_skF ?_
    | ((first | apply s_plain | apply s_void | apply s_guard | apply g_goT | apply g_goF); · simp only [go_sem, Nat.reduceEqDiff, Nat.reduceAdd, Nat.reduceLeDiff]; (first | done | rfl))
    | ((first | apply g_T | apply g_F | apply g_gT | apply g_gF); · intro q1_; (first | intro q2_ | have q2_ := q1_); simp only [go_sem, Nat.reduceEqDiff, Nat.reduceAdd, Nat.reduceLeDiff, q1_, q2_]; (first | done | rfl))
    | (apply w_condX; · simp only [go_sem, Nat.reduceEqDiff, Nat.reduceAdd, Nat.reduceLeDiff]; (first | done | rfl)); (first | refine wcd_T ?_ | refine wcd_F ?_)
    | refine w_skip ?_ | refine w_exit ?_ | refine w_ret ?_
    | fail
    )
    exact ⟨.inr rfl, by simp only [go_sem, Nat.reduceEqDiff, Nat.reduceAdd, Nat.reduceLeDiff, retOf, resOf]; simp only [withL, hb, if_true]; rfl⟩
  | false =>
    have hb' := hb
    simp only [Bool.or_eq_false_iff, Bool.not_eq_false'] at hb'
    have k1 := right_len hb'.1
    have k2 := right_len hb'.2
    obtain ⟨r, σ1, h128, hg⟩ := a128 (σ := St.nil) V (l := over) (by omega)
    (repeat' first
    | refine w_seq ?_ | refine w_rg ?_ | refine wo_nil ?_ | refine g_skU ?_ | refine g_skT ?_ | refine g_skF ?_
    | ((first | apply s_plain | apply s_void | apply s_guard | apply g_goT | apply g_goF); · simp only [go_sem, Nat.reduceEqDiff, Nat.reduceAdd, Nat.reduceLeDiff, h128]; (first | done | rfl))
    | ((first | apply g_T | apply g_F | apply g_gT | apply g_gF); · intro q1_; (first | intro q2_ | have q2_ := q1_); simp only [go_sem, Nat.reduceEqDiff, Nat.reduceAdd, Nat.reduceLeDiff, h128, q1_, q2_]; (first | done | rfl))
    | (apply w_condX; · simp only [go_sem, Nat.reduceEqDiff, Nat.reduceAdd, Nat.reduceLeDiff, h128]; (first | done | rfl)); (first | refine wcd_T ?_ | refine wcd_F ?_)
    | refine w_skip ?_ | refine w_exit ?_ | refine w_ret ?_
    | fail
    )
    (repeat' first
    | refine w_seq ?_ | refine w_rg ?_ | refine wo_nil ?_ | refine g_skU ?_ | refine g_skT ?_ | refine g_skF ?_
    | ((first | apply s_plain | apply s_void | apply s_guard | apply g_goT | apply g_goF); · simp only [go_sem, Nat.reduceEqDiff, Nat.reduceAdd, Nat.reduceLeDiff, hll]; (first | done | rfl))
    | ((first | apply g_T | apply g_F | apply g_gT | apply g_gF); · intro q1_; (first | intro q2_ | have q2_ := q1_); simp only [go_sem, Nat.reduceEqDiff, Nat.reduceAdd, Nat.reduceLeDiff, hll, q1_, q2_]; (first | done | rfl))
    | fail
    )
    refine w_block (w_range l.length hn (fun i fr σ => fr 1 = .sl (labs over) ∧ fr 19 = .sl (labs l) ∧ Gat σ [7, 33] 2 false (fr 6) (labs (overL (l.take i) over))) (by decide) ?_ ?_ ?_ _ _ ?_ ?_ ?_)
    · rintro i fr σ v ⟨h0, h1, h2⟩
      refine ⟨⟨?_, ?_, ?_⟩, ⟨?_, ?_, ?_⟩, ⟨?_, ?_, ?_⟩⟩ <;> simp only [go_sem, Nat.reduceEqDiff, Nat.reduceAdd, Nat.reduceLeDiff, h0, h1, h2]
    · rintro i fr σ hi ⟨f1, f19, hg⟩ hti htn
      have hy := labs_at (List.getElem?_eq_getElem hi)
      have e1 : (0 : Int) ≤ (i : Int) ∧ (i : Int) < (l.length : Int) := by omega
      have h114 := a114 G (l := over) (n := l[i].1) hn'
      refine w_block ?_
      simp only [lab] at hy
      (repeat' first
    | refine w_seq ?_ | refine w_rg ?_ | refine wo_nil ?_ | refine g_skU ?_ | refine g_skT ?_ | refine g_skF ?_
    | ((first | apply s_plain | apply s_void | apply s_guard | apply g_goT | apply g_goF); · simp only [go_sem, Nat.reduceEqDiff, Nat.reduceAdd, Nat.reduceLeDiff, f1, f19, hti, e1, hll, Int.toNat_natCast, hy, List.modify_zero_cons, h114]; (first | done | rfl))
    | ((first | apply g_T | apply g_F | apply g_gT | apply g_gF); · intro q1_; (first | intro q2_ | have q2_ := q1_); simp only [go_sem, Nat.reduceEqDiff, Nat.reduceAdd, Nat.reduceLeDiff, f1, f19, hti, e1, hll, Int.toNat_natCast, hy, List.modify_zero_cons, h114, q1_, q2_]; (first | done | rfl))
    | fail
    )
      have hmi : missB over l[i] = ((getB over l[i].1).toList == (⟨#[]⟩ : ByteArray).toList) := rfl
      have htake : l.take (i + 1) = l.take i ++ [l[i]] := List.take_succ_eq_append_getElem hi
      have hov : labs (overL (l.take (i + 1)) over) = labs (overL (l.take i) over) ++ (if missB over l[i] = true then [.agg [.sc (.string l[i].1), .sc (.string l[i].2)]] else []) := by
        rw [htake]
        unfold overL
        rw [List.filter_append]
        cases hm : missB over l[i] <;> simp [labs, hm, lab]
      cases hb : missB over l[i] with
      | true =>
        rw [hb, if_pos rfl] at hov
        rw [hmi] at hb
        refine w_condT (by simp only [go_sem, Nat.reduceEqDiff, Nat.reduceAdd, Nat.reduceLeDiff, hb]) ?_
        (repeat' first
    | refine w_seq ?_ | refine w_rg ?_ | refine wo_nil ?_ | refine g_skU ?_ | refine g_skT ?_ | refine g_skF ?_
    | ((first | apply s_plain | apply s_void | apply s_guard | apply g_goT | apply g_goF); · simp only [go_sem, Nat.reduceEqDiff, Nat.reduceAdd, Nat.reduceLeDiff, List.drop_zero, fillE, List.replicate_succ, List.replicate_zero, List.set_cons_zero]; (first | done | rfl))
    | ((first | apply g_T | apply g_F | apply g_gT | apply g_gF); · intro q1_; (first | intro q2_ | have q2_ := q1_); simp only [go_sem, Nat.reduceEqDiff, Nat.reduceAdd, Nat.reduceLeDiff, List.drop_zero, fillE, List.replicate_succ, List.replicate_zero, List.set_cons_zero, q1_, q2_]; (first | done | rfl))
    | fail
    )
        have hlen : (labs (overL (l.take i) over)).length ≤ 16 := by
          have := overL_len (l.take i) over
          rw [List.length_take] at this
          rw [labs_len]; omega
        refine s_gat (os := [7, 33]) (w := false) (xs := labs (overL (l.take i) over)) (e := .agg [.sc (.string l[i].1), .sc (.string l[i].2)]) (by simp only [go_sem, Nat.reduceEqDiff, Nat.reduceAdd, Nat.reduceLeDiff]; exact ((hg.new _).put (d := 2000008) (by decide) _).new _) (by decide) (by simp only [go_sem, Nat.reduceEqDiff, Nat.reduceAdd, Nat.reduceLeDiff, srcOf, elemsOf, List.drop_zero]) rfl rfl (by omega) ?_
        intro p σ' hg2
        simp only [Bool.false_and] at hg2
        rw [← hov] at hg2
        (repeat' first
    | refine w_seq ?_ | refine w_rg ?_ | refine wo_nil ?_ | refine g_skU ?_ | refine g_skT ?_ | refine g_skF ?_
    | ((first | apply s_plain | apply s_void | apply s_guard | apply g_goT | apply g_goF); · simp only [go_sem, Nat.reduceEqDiff, Nat.reduceAdd, Nat.reduceLeDiff]; (first | done | rfl))
    | ((first | apply g_T | apply g_F | apply g_gT | apply g_gF); · intro q1_; (first | intro q2_ | have q2_ := q1_); simp only [go_sem, Nat.reduceEqDiff, Nat.reduceAdd, Nat.reduceLeDiff, q1_, q2_]; (first | done | rfl))
    | (apply w_condX; · simp only [go_sem, Nat.reduceEqDiff, Nat.reduceAdd, Nat.reduceLeDiff]; (first | done | rfl)); (first | refine wcd_T ?_ | refine wcd_F ?_)
    | refine w_skip ?_ | refine w_exit ?_ | refine w_ret ?_
    | fail
    )
        refine ⟨⟨?_, ?_, ?_⟩, ?_, ?_⟩
        · simp only [go_sem, Nat.reduceEqDiff, Nat.reduceAdd, Nat.reduceLeDiff, f1]
        · simp only [go_sem, Nat.reduceEqDiff, Nat.reduceAdd, Nat.reduceLeDiff, f19]
        · simp only [go_sem, Nat.reduceEqDiff, Nat.reduceAdd, Nat.reduceLeDiff]; exact hg2
        · simp only [go_sem, Nat.reduceEqDiff, Nat.reduceAdd, Nat.reduceLeDiff, hti]
        · simp only [go_sem, Nat.reduceEqDiff, Nat.reduceAdd, Nat.reduceLeDiff, htn]
      | false =>
        rw [hb, if_neg (by decide), List.append_nil] at hov
        rw [hmi] at hb
        refine w_condF (by simp only [go_sem, Nat.reduceEqDiff, Nat.reduceAdd, Nat.reduceLeDiff, hb]) ?_
        (repeat' first
    | refine w_seq ?_ | refine w_rg ?_ | refine wo_nil ?_ | refine g_skU ?_ | refine g_skT ?_ | refine g_skF ?_
    | ((first | apply s_plain | apply s_void | apply s_guard | apply g_goT | apply g_goF); · simp only [go_sem, Nat.reduceEqDiff, Nat.reduceAdd, Nat.reduceLeDiff]; (first | done | rfl))
    | ((first | apply g_T | apply g_F | apply g_gT | apply g_gF); · intro q1_; (first | intro q2_ | have q2_ := q1_); simp only [go_sem, Nat.reduceEqDiff, Nat.reduceAdd, Nat.reduceLeDiff, q1_, q2_]; (first | done | rfl))
    | (apply w_condX; · simp only [go_sem, Nat.reduceEqDiff, Nat.reduceAdd, Nat.reduceLeDiff]; (first | done | rfl)); (first | refine wcd_T ?_ | refine wcd_F ?_)
    | refine w_skip ?_ | refine w_exit ?_ | refine w_ret ?_
    | fail
    )
        refine ⟨⟨?_, ?_, ?_⟩, ?_, ?_⟩
        · simp only [go_sem, Nat.reduceEqDiff, Nat.reduceAdd, Nat.reduceLeDiff, f1]
        · simp only [go_sem, Nat.reduceEqDiff, Nat.reduceAdd, Nat.reduceLeDiff, f19]
        · simp only [go_sem, Nat.reduceEqDiff, Nat.reduceAdd, Nat.reduceLeDiff]; rw [hov]; exact (hg.new _).put (d := 2000008) (by decide) _
        · simp only [go_sem, Nat.reduceEqDiff, Nat.reduceAdd, Nat.reduceLeDiff, hti]
        · simp only [go_sem, Nat.reduceEqDiff, Nat.reduceAdd, Nat.reduceLeDiff, htn]
    · rintro fr σ ⟨f1, f19, hg⟩
      try simp only [if_true]
      rw [List.take_of_length_le (Nat.le_refl _)] at hg
      have hfz := hg.fz (labs_fz σ _)
      have h129 := a129 H G O P B (l := overL l over) (by have := overL_len l over; omega) (overL_smalls hl hl')
      (repeat' first
    | refine w_seq ?_ | refine w_rg ?_ | refine wo_nil ?_ | refine g_skU ?_ | refine g_skT ?_ | refine g_skF ?_
    | ((first | apply s_plain | apply s_void | apply s_guard | apply g_goT | apply g_goF); · simp only [go_sem, Nat.reduceEqDiff, Nat.reduceAdd, Nat.reduceLeDiff]; (first | done | rfl))
    | ((first | apply g_T | apply g_F | apply g_gT | apply g_gF); · intro q1_; (first | intro q2_ | have q2_ := q1_); simp only [go_sem, Nat.reduceEqDiff, Nat.reduceAdd, Nat.reduceLeDiff, q1_, q2_]; (first | done | rfl))
    | fail
    )
      refine s_call (as := [.sl (labs (overL l over))]) (by simp only [go_sem, Nat.reduceEqDiff, Nat.reduceAdd, Nat.reduceLeDiff, hfz]) h129 ?_
      intro σ'
      (repeat' first
    | refine w_seq ?_ | refine w_rg ?_ | refine wo_nil ?_ | refine g_skU ?_ | refine g_skT ?_ | refine g_skF ?_
    | ((first | apply s_plain | apply s_void | apply s_guard | apply g_goT | apply g_goF); · simp only [go_sem, Nat.reduceEqDiff, Nat.reduceAdd, Nat.reduceLeDiff]; (first | done | rfl))
    | ((first | apply g_T | apply g_F | apply g_gT | apply g_gF); · intro q1_; (first | intro q2_ | have q2_ := q1_); simp only [go_sem, Nat.reduceEqDiff, Nat.reduceAdd, Nat.reduceLeDiff, q1_, q2_]; (first | done | rfl))
    | (apply w_condX; · simp only [go_sem, Nat.reduceEqDiff, Nat.reduceAdd, Nat.reduceLeDiff]; (first | done | rfl)); (first | refine wcd_T ?_ | refine wcd_F ?_)
    | refine w_skip ?_ | refine w_exit ?_ | refine w_ret ?_
    | fail
    )
      exact ⟨.inr rfl, by simp only [go_sem, Nat.reduceEqDiff, Nat.reduceAdd, Nat.reduceLeDiff, retOf, resOf]; simp only [withL, hb, Bool.false_eq_true, if_false]; first | done | rfl⟩
    · refine ⟨?_, ?_, ?_⟩
      · simp only [go_sem, Nat.reduceEqDiff, Nat.reduceAdd, Nat.reduceLeDiff]
      · simp only [go_sem, Nat.reduceEqDiff, Nat.reduceAdd, Nat.reduceLeDiff]
      · simp only [go_sem, Nat.reduceEqDiff, Nat.reduceAdd, Nat.reduceLeDiff]
        have h0 : overL [] over = over := by simp [overL]
        rw [h0]
        exact hg.mono (by intro o ho; simp at ho ⊢; omega)
    · simp only [go_sem, Nat.reduceEqDiff, Nat.reduceAdd, Nat.reduceLeDiff]
    · simp only [go_sem, Nat.reduceEqDiff, Nat.reduceAdd, Nat.reduceLeDiff, hll]
theorem newL_ok {l : List Lab} (h : (newL l).2 = 0) : rightL (newL l).1 = true := by
  unfold newL at h ⊢
  split at h
  · cases h
  · split at h
    · cases h
    · split at h
      · rename_i h1 h2 h3
        rw [if_neg h1, if_neg h2, if_pos h3]; exact h3
      · cases h
theorem withL_ok {l over : List Lab} (h : (withL l over).2 = 0) : rightL (withL l over).1 = true := by
  unfold withL at h ⊢
  split at h
  · cases h
  · rename_i h1
    rw [if_neg h1]
    exact newL_ok h
def labelsR (r : Rule) (l : List Lab) : List Lab × Int := if !rightR r then ([], 1) else if (withL l r.labels).2 != 0 then ([], (withL l r.labels).2) else withL (withL l r.labels).1 [(alertT, r.name)]
theorem a109 (H : Has la env) (G : Has lc env) (F : Has lf env) (I : Has lg env) (O : Has lo env) (P : Has lp env) (V : Has lq env) (B : Bits env) {r : Rule} {l : List Lab} (hr : r.Fits) (hn : l.length ≤ 9223372036854775807) (hl : Smalls l) :
    AV env 109 [rule r, .sl (labs l)] = some (.tu [.sl (labs (labelsR r l).1), .sc (.int .i64 (labelsR r l).2)]) := by
  have h105 := a105 H G F I hr
  have h116 := a116 (la_la0 H) G O P (lq_lq0 V) B hn hl hr.l hr.s
  refine AV_wp (V (109, d109) (by simp [lq])) rfl ?_
  unfold rule at h105 ⊢
  (repeat' first
    | refine w_seq ?_ | refine w_rg ?_ | refine wo_nil ?_ | refine g_skU ?_ | refine g_skT ?_ | refine g_skF ?_
    | ((first | apply s_plain | apply s_void | apply s_guard | apply g_goT | apply g_goF); · simp only [go_sem, Nat.reduceEqDiff, Nat.reduceAdd, Nat.reduceLeDiff, h105, List.drop_zero]; (first | done | rfl))
    | ((first | apply g_T | apply g_F | apply g_gT | apply g_gF); · intro q1_; (first | intro q2_ | have q2_ := q1_); simp only [go_sem, Nat.reduceEqDiff, Nat.reduceAdd, Nat.reduceLeDiff, h105, List.drop_zero, q1_, q2_]; (first | done | rfl))
    | fail
    )
  cases hb : rightR r with
  | false =>
    (repeat' first
    | refine w_seq ?_ | refine w_rg ?_ | refine wo_nil ?_ | refine g_skU ?_ | refine g_skT ?_ | refine g_skF ?_
    | ((first | apply s_plain | apply s_void | apply s_guard | apply g_goT | apply g_goF); · simp only [go_sem, Nat.reduceEqDiff, Nat.reduceAdd, Nat.reduceLeDiff]; (first | done | rfl))
    | ((first | apply g_T | apply g_F | apply g_gT | apply g_gF); · intro q1_; (first | intro q2_ | have q2_ := q1_); simp only [go_sem, Nat.reduceEqDiff, Nat.reduceAdd, Nat.reduceLeDiff, q1_, q2_]; (first | done | rfl))
    | (apply w_condX; · simp only [go_sem, Nat.reduceEqDiff, Nat.reduceAdd, Nat.reduceLeDiff]; (first | done | rfl)); (first | refine wcd_T ?_ | refine wcd_F ?_)
    | refine w_skip ?_ | refine w_exit ?_ | refine w_ret ?_
    | fail
    )
    exact ⟨.inr rfl, by simp only [go_sem, Nat.reduceEqDiff, Nat.reduceAdd, Nat.reduceLeDiff, retOf, resOf]; simp only [labelsR, hb]; rfl⟩
  | true =>
    (repeat' first
    | refine w_seq ?_ | refine w_rg ?_ | refine wo_nil ?_ | refine g_skU ?_ | refine g_skT ?_ | refine g_skF ?_
    | ((first | apply s_plain | apply s_void | apply s_guard | apply g_goT | apply g_goF); · simp only [go_sem, Nat.reduceEqDiff, Nat.reduceAdd, Nat.reduceLeDiff]; (first | done | rfl))
    | ((first | apply g_T | apply g_F | apply g_gT | apply g_gF); · intro q1_; (first | intro q2_ | have q2_ := q1_); simp only [go_sem, Nat.reduceEqDiff, Nat.reduceAdd, Nat.reduceLeDiff, q1_, q2_]; (first | done | rfl))
    | (apply w_condX; · simp only [go_sem, Nat.reduceEqDiff, Nat.reduceAdd, Nat.reduceLeDiff]; (first | done | rfl)); (first | refine wcd_T ?_ | refine wcd_F ?_)
    | refine w_skip ?_ | refine w_exit ?_ | refine w_ret ?_
    | fail
    )
    (repeat' first
    | refine w_seq ?_ | refine w_rg ?_ | refine wo_nil ?_ | refine g_skU ?_ | refine g_skT ?_ | refine g_skF ?_
    | ((first | apply s_plain | apply s_void | apply s_guard | apply g_goT | apply g_goF); · simp only [go_sem, Nat.reduceEqDiff, Nat.reduceAdd, Nat.reduceLeDiff, h116]; (first | done | rfl))
    | ((first | apply g_T | apply g_F | apply g_gT | apply g_gF); · intro q1_; (first | intro q2_ | have q2_ := q1_); simp only [go_sem, Nat.reduceEqDiff, Nat.reduceAdd, Nat.reduceLeDiff, h116, q1_, q2_]; (first | done | rfl))
    | fail
    )
    cases hq : ((withL l r.labels).2 != 0) with
    | true =>
      (repeat' first
    | refine w_seq ?_ | refine w_rg ?_ | refine wo_nil ?_ | refine g_skU ?_ | refine g_skT ?_ | refine g_skF ?_
    | ((first | apply s_plain | apply s_void | apply s_guard | apply g_goT | apply g_goF); · simp only [go_sem, Nat.reduceEqDiff, Nat.reduceAdd, Nat.reduceLeDiff]; (first | done | rfl))
    | ((first | apply g_T | apply g_F | apply g_gT | apply g_gF); · intro q1_; (first | intro q2_ | have q2_ := q1_); simp only [go_sem, Nat.reduceEqDiff, Nat.reduceAdd, Nat.reduceLeDiff, q1_, q2_]; (first | done | rfl))
    | (apply w_condX; · simp only [go_sem, Nat.reduceEqDiff, Nat.reduceAdd, Nat.reduceLeDiff]; (first | done | rfl)); (first | refine wcd_T ?_ | refine wcd_F ?_)
    | refine w_skip ?_ | refine w_exit ?_ | refine w_ret ?_
    | fail
    )
      exact ⟨.inr rfl, by simp only [go_sem, Nat.reduceEqDiff, Nat.reduceAdd, Nat.reduceLeDiff, retOf, resOf]; simp only [labelsR, hb, hq]; rfl⟩
    | false =>
      have hz : (withL l r.labels).2 = 0 := by simpa using hq
      have hok := withL_ok hz
      have hsm : Smalls [(alertT, r.name)] := by
        intro m hm
        simp at hm
        subst hm
        exact ⟨show Small alertT by unfold Small; decide, hr.n⟩
      have h116' := a116 (la_la0 H) G O P (lq_lq0 V) B (l := (withL l r.labels).1) (over := [(alertT, r.name)]) (by have := right_len hok; omega) (right_smalls hok) (by simp) hsm
      (repeat' first
    | refine w_seq ?_ | refine w_rg ?_ | refine wo_nil ?_ | refine g_skU ?_ | refine g_skT ?_ | refine g_skF ?_
    | ((first | apply s_plain | apply s_void | apply s_guard | apply g_goT | apply g_goF); · simp only [go_sem, Nat.reduceEqDiff, Nat.reduceAdd, Nat.reduceLeDiff, fillE, fillP, splice, List.replicate_succ, List.replicate_zero, List.set_cons_zero, List.take_succ_cons, List.drop_succ_cons, List.drop_zero]; (first | done | rfl))
    | ((first | apply g_T | apply g_F | apply g_gT | apply g_gF); · intro q1_; (first | intro q2_ | have q2_ := q1_); simp only [go_sem, Nat.reduceEqDiff, Nat.reduceAdd, Nat.reduceLeDiff, fillE, fillP, splice, List.replicate_succ, List.replicate_zero, List.set_cons_zero, List.take_succ_cons, List.drop_succ_cons, List.drop_zero, q1_, q2_]; (first | done | rfl))
    | (apply w_condX; · simp only [go_sem, Nat.reduceEqDiff, Nat.reduceAdd, Nat.reduceLeDiff, fillE, fillP, splice, List.replicate_succ, List.replicate_zero, List.set_cons_zero, List.take_succ_cons, List.drop_succ_cons, List.drop_zero]; (first | done | rfl)); (first | refine wcd_T ?_ | refine wcd_F ?_)
    | refine w_skip ?_ | refine w_exit ?_ | refine w_ret ?_
    | fail
    )
      (repeat' first
    | refine w_seq ?_ | refine w_rg ?_ | refine wo_nil ?_ | refine g_skU ?_ | refine g_skT ?_ | refine g_skF ?_
    | ((first | apply s_plain | apply s_void | apply s_guard | apply g_goT | apply g_goF); · simp only [go_sem, Nat.reduceEqDiff, Nat.reduceAdd, Nat.reduceLeDiff, fillE, fillP, splice, List.replicate_succ, List.replicate_zero, List.set_cons_zero, List.take_succ_cons, List.drop_succ_cons, List.drop_zero]; (first | done | rfl))
    | ((first | apply g_T | apply g_F | apply g_gT | apply g_gF); · intro q1_; (first | intro q2_ | have q2_ := q1_); simp only [go_sem, Nat.reduceEqDiff, Nat.reduceAdd, Nat.reduceLeDiff, fillE, fillP, splice, List.replicate_succ, List.replicate_zero, List.set_cons_zero, List.take_succ_cons, List.drop_succ_cons, List.drop_zero, q1_, q2_]; (first | done | rfl))
    | fail
    )
      have hone : labs [(alertT, r.name)] = [.agg [.sc (.string ⟨#[97, 108, 101, 114, 116]⟩), .sc (.string r.name)]] := rfl
      rw [hone] at h116'
      refine s_call (as := [.sl (labs (withL l r.labels).1), .sl [.agg [.sc (.string ⟨#[97, 108, 101, 114, 116]⟩), .sc (.string r.name)]]]) (by simp only [go_sem, Nat.reduceEqDiff, Nat.reduceAdd, Nat.reduceLeDiff, Nat.reduceAdd, List.drop_zero, List.take_succ_cons, List.take_zero]) h116' ?_
      intro σ'
      (repeat' first
    | refine w_seq ?_ | refine w_rg ?_ | refine wo_nil ?_ | refine g_skU ?_ | refine g_skT ?_ | refine g_skF ?_
    | ((first | apply s_plain | apply s_void | apply s_guard | apply g_goT | apply g_goF); · simp only [go_sem, Nat.reduceEqDiff, Nat.reduceAdd, Nat.reduceLeDiff]; (first | done | rfl))
    | ((first | apply g_T | apply g_F | apply g_gT | apply g_gF); · intro q1_; (first | intro q2_ | have q2_ := q1_); simp only [go_sem, Nat.reduceEqDiff, Nat.reduceAdd, Nat.reduceLeDiff, q1_, q2_]; (first | done | rfl))
    | (apply w_condX; · simp only [go_sem, Nat.reduceEqDiff, Nat.reduceAdd, Nat.reduceLeDiff]; (first | done | rfl)); (first | refine wcd_T ?_ | refine wcd_F ?_)
    | refine w_skip ?_ | refine w_exit ?_ | refine w_ret ?_
    | fail
    )
      exact ⟨.inr rfl, by simp only [go_sem, Nat.reduceEqDiff, Nat.reduceAdd, Nat.reduceLeDiff, retOf, resOf]; simp only [labelsR, hb, hq]; first | done | rfl⟩
end

section
variable {env : Nat → Option Def} {fr : Fr} {σ σ' : St} {K : Fr → St → Prop} {Q : X → Fr → St → Prop}
structure Seek (l : List Lab) (i : Nat) (a : List Lab) (m : Lab) (pb : PV) (k : Nat) (fr : Fr) (σ : St) : Prop where
  le : k ≤ a.length
  f9 : fr 9 = .sl (labs l)
  f11 : fr 11 = .sc (.int .i64 i)
  f10 : fr 10 = .sc (.int .i64 l.length)
  f5 : fr 5 = pb
  pb : ∃ g, pb = .bx 2000005 g 2 0 0 ∧ σ.m 2000005 g = some ⟨2, [lab m], true, true⟩ ∧ g < σ.c 2000005
  g3 : Gat σ [46] 2 false (fr 3) (labs a)
  f6 : fr 6 = .sc (.int .i64 k)
  ins : insAt m a a.length = insAt m a k
end

theorem less_before : ∀ a b : List UInt8, Op.bytesLess a b = bytesBefore a b
  | [], [] => rfl
  | [], _ :: _ => rfl
  | _ :: _, [] => rfl
  | a :: x, b :: y => by simp only [Op.bytesLess, bytesBefore, less_before x y]
theorem lessB_eq (a b : ByteArray) : lessB a b = bytesBefore a.data.toList b.data.toList := by
  unfold lessB; rw [less_before, ByteArray.toList_eq, ByteArray.toList_eq]
theorem lessB_trans {a b c : ByteArray} (h1 : lessB a b = true) (h2 : lessB b c = true) : lessB a c = true := by
  rw [lessB_eq] at *
  exact Go.WideShapes.bytes_trans _ _ _ h1 h2
theorem lessB_irrefl (a : ByteArray) : lessB a a = false := by rw [lessB_eq]; exact Go.WideAt.bytes_irrefl _
theorem lessB_total {a b : ByteArray} (h : a ≠ b) : lessB a b = true ∨ lessB b a = true := by
  rw [lessB_eq, lessB_eq]
  exact Go.WideAt.bytes_total _ _ fun he => h (Go.WideShapes.bytes_inj he)
def Rising (l : List Lab) : Prop := l.Pairwise fun a b => lessB a.1 b.1 = true
def Apart (l : List Lab) : Prop := l.Pairwise fun a b => a.1 ≠ b.1
theorem Rising.apart {l : List Lab} (h : Rising l) : Apart l := h.imp fun hab he => by
  rw [he, lessB_irrefl] at hab
  cases hab
theorem nth_eq {l : List Lab} {i : Nat} (hi : i < l.length) : nth l i = l[i] := by unfold nth; rw [List.getElem?_eq_getElem hi]; rfl
theorem right_iff {l : List Lab} : rightL l = true ↔ (∀ m ∈ l, mayB m = true) ∧ Rising l ∧ l.length ≤ 8 := by
  constructor
  · intro h
    have h8 := right_len h
    refine ⟨fun m hm => ?_, ?_, h8⟩
    · obtain ⟨i, hi⟩ := List.getElem?_of_mem hm
      have hlt := (List.getElem?_eq_some_iff.1 hi).1
      have := rightL_may h hlt
      have e : nth l i = m := by unfold nth; rw [hi]; rfl
      rwa [e] at this
    · unfold rightL at h
      simp only [Bool.and_eq_true, Bool.not_eq_true', decide_eq_false_iff_not] at h
      have hb := found_no h.1
      have step : ∀ j, j + 1 < l.length → lessB (nth l j).1 (nth l (j + 1)).1 = true := by
        intro j hj
        have := hb (j + 1) hj
        unfold badL at this
        simp only [Bool.or_eq_false_iff, Bool.and_eq_false_iff, Bool.not_eq_false', decide_eq_false_iff_not] at this
        rcases this.2 with h2 | h2
        · omega
        · exact h2
      have far : ∀ d i, i + d + 1 < l.length → lessB (nth l i).1 (nth l (i + d + 1)).1 = true := by
        intro d
        induction d with
        | zero => intro i hi; exact step i hi
        | succ d ih => intro i hi; exact lessB_trans (ih i (by omega)) (step (i + d + 1) (by omega))
      unfold Rising
      rw [List.pairwise_iff_getElem]
      intro i j hi hj hij
      have := far (j - i - 1) i (by omega)
      rw [show i + (j - i - 1) + 1 = j from by omega, nth_eq hi, nth_eq hj] at this
      exact this
  · rintro ⟨h1, h2, h3⟩
    unfold rightL
    simp only [Bool.and_eq_true, Bool.not_eq_true', decide_eq_false_iff_not, decide_eq_true_eq]
    refine ⟨?_, by omega⟩
    have : found (badL l) l.length = -1 := by
      refine found_none fun j hj => ?_
      unfold badL
      rw [nth_eq hj, h1 _ (List.getElem_mem hj)]
      simp only [Bool.not_true, Bool.false_or, Bool.and_eq_false_iff, decide_eq_false_iff_not, Bool.not_eq_false']
      cases j with
      | zero => exact .inl (by omega)
      | succ j =>
        right
        have := List.pairwise_iff_getElem.1 h2 j (j + 1) (by omega) hj (by omega)
        rw [show j + 1 - 1 = j from rfl, nth_eq (show j < l.length by omega)]
        exact this
    rw [this]
    omega
theorem insAt_perm (m : Lab) (a : List Lab) : ∀ k, k ≤ a.length → (insAt m a k).Perm (m :: a)
  | 0, _ => .refl _
  | k + 1, h => by
    simp only [insAt]
    split
    · exact insAt_perm m a k (by omega)
    · refine List.perm_middle.trans ?_
      rw [List.take_append_drop]
theorem insR_perm (a : List Lab) (m : Lab) : (insR a m).Perm (m :: a) := insAt_perm m a a.length (Nat.le_refl _)
theorem foldl_perm : ∀ (l a : List Lab), (l.foldl insR a).Perm (a ++ l)
  | [], a => by simp
  | m :: l, a => by
    refine (foldl_perm l (insR a m)).trans ?_
    refine ((insR_perm a m).append_right l).trans ?_
    simpa using (List.perm_middle (a := m) (l₁ := a) (l₂ := l)).symm
theorem sorted_perm (l : List Lab) : (sortedL l).Perm l := by simpa [sortedL] using foldl_perm l []
theorem insAt_rising {m : Lab} {a : List Lab} (ha : Rising a) (hne : ∀ x ∈ a, x.1 ≠ m.1) : ∀ k, k ≤ a.length → (∀ i (h : i < a.length), k ≤ i → lessB m.1 a[i].1 = true) → Rising (insAt m a k)
  | 0, _, hg => by
    unfold Rising insAt
    rw [List.pairwise_cons]
    refine ⟨fun x hx => ?_, ha⟩
    obtain ⟨i, hi, rfl⟩ := List.getElem_of_mem hx
    exact hg i hi (Nat.zero_le _)
  | k + 1, hk, hg => by
    unfold insAt
    split
    · rename_i hl
      refine insAt_rising ha hne k (by omega) fun i hi hki => ?_
      by_cases hik : i = k
      · subst hik
        rw [nth_eq hi] at hl
        exact hl
      · exact hg i hi (by omega)
    · rename_i hl
      have hlt : k < a.length := by omega
      rw [nth_eq hlt] at hl
      have hkm : lessB a[k].1 m.1 = true := by
        rcases lessB_total (hne _ (List.getElem_mem hlt)) with h | h
        · exact h
        · exact absurd h hl
      have hle : ∀ i (h : i < a.length), i ≤ k → lessB a[i].1 m.1 = true := by
        intro i hi hik
        by_cases he : i = k
        · subst he; exact hkm
        · exact lessB_trans (List.pairwise_iff_getElem.1 ha i k hi hlt (by omega)) hkm
      unfold Rising
      rw [List.pairwise_append]
      refine ⟨ha.sublist (List.take_sublist _ _), ?_, ?_⟩
      · rw [List.pairwise_cons]
        refine ⟨fun x hx => ?_, ha.sublist (List.drop_sublist _ _)⟩
        obtain ⟨i, hi, rfl⟩ := List.getElem_of_mem hx
        rw [List.getElem_drop]
        exact hg _ _ (by omega)
      · intro x hx y hy
        obtain ⟨i, hi, rfl⟩ := List.getElem_of_mem hx
        have hi' : i < k + 1 := by rw [List.length_take] at hi; omega
        rw [List.getElem_take]
        have hxm := hle i (by omega) (by omega)
        rcases List.mem_cons.1 hy with rfl | hy
        · exact hxm
        · obtain ⟨j, hj, rfl⟩ := List.getElem_of_mem hy
          rw [List.getElem_drop]
          exact lessB_trans hxm (hg _ _ (by omega))
theorem foldl_rising : ∀ (l a : List Lab), Rising a → Apart (a ++ l) → Rising (l.foldl insR a)
  | [], a, ha, _ => ha
  | m :: l, a, ha, hp => by
    have hperm : (a ++ m :: l).Perm (insR a m ++ l) := by
      refine List.perm_middle.trans ?_
      exact ((insR_perm a m).symm.append_right l)
    have hp' : Apart (insR a m ++ l) := (hperm.pairwise_iff (fun h => Ne.symm h)).1 hp
    refine foldl_rising l (insR a m) ?_ hp'
    refine insAt_rising ha (fun x hx => ?_) a.length (Nat.le_refl _) (fun i hi h => by omega)
    unfold Apart at hp
    rw [List.pairwise_append] at hp
    exact hp.2.2 x hx m (by simp)
theorem sorted_rising {l : List Lab} (h : Apart l) : Rising (sortedL l) := foldl_rising l [] List.Pairwise.nil (by simpa using h)
theorem sorted_right {l : List Lab} (h1 : ∀ m ∈ l, mayB m = true) (h2 : Apart l) (h3 : l.length ≤ 8) : rightL (sortedL l) = true :=
  right_iff.2 ⟨fun m hm => h1 m (mem_sorted hm), sorted_rising h2, by rw [sortedL_len]; exact h3⟩
theorem may_value {m : Lab} (h : mayB m = true) : (m.2.toList == (⟨#[]⟩ : ByteArray).toList) = false := by
  unfold mayB valueB filled at h
  simp only [Bool.and_eq_true, Bool.not_eq_true'] at h
  exact h.2.1.1
theorem miss_apart {over : List Lab} (hr : ∀ m ∈ over, mayB m = true) {m x : Lab} (hm : missB over m = true) (hx : x ∈ over) : x.1 ≠ m.1 := by
  intro he
  obtain ⟨i, hi, rfl⟩ := List.getElem_of_mem hx
  have his : isN over m.1 i = true := by unfold isN; rw [nth_eq hi, he]; simp
  obtain ⟨j, h1, h2, _⟩ := found_is hi his
  have hg : getB over m.1 = (nth over j).2 := by
    unfold getB
    rw [h1, if_neg (by omega)]
    rfl
  unfold missB at hm
  rw [hg, nth_eq h2, may_value (hr _ (List.getElem_mem h2))] at hm
  cases hm
theorem over_apart {l over : List Lab} (h1 : rightL l = true) (h2 : rightL over = true) : Apart (overL l over) := by
  obtain ⟨a1, a2, a3⟩ := right_iff.1 h1
  obtain ⟨b1, b2, b3⟩ := right_iff.1 h2
  unfold Apart overL
  rw [List.pairwise_append]
  refine ⟨b2.apart, a2.apart.sublist List.filter_sublist, fun x hx y hy => ?_⟩
  exact miss_apart b1 (List.mem_filter.1 hy).2 hx
theorem over_may {l over : List Lab} (h1 : rightL l = true) (h2 : rightL over = true) : ∀ m ∈ overL l over, mayB m = true := by
  intro m hm
  simp only [overL, List.mem_append, List.mem_filter] at hm
  rcases hm with hm | hm
  · exact (right_iff.1 h2).1 m hm
  · exact (right_iff.1 h1).1 m hm.1
theorem wrong_none {l : List Lab} (h : ∀ m ∈ l, mayB m = true) : wrongB l = false := by
  unfold wrongB
  rw [found_none fun j hj => by rw [nth_eq hj, h _ (List.getElem_mem hj)]; rfl]
  rfl
theorem withL_right {l over : List Lab} (h1 : rightL l = true) (h2 : rightL over = true) : withL l over = if (overL l over).length > 8 then ([], 2) else (sortedL (overL l over), 0) := by
  unfold withL newL
  rw [h1, h2, wrong_none (over_may h1 h2)]
  simp only [Bool.not_true, Bool.or_self, Bool.false_eq_true, if_false]
  by_cases h : (overL l over).length > 8
  · rw [if_pos (by omega), if_pos h]
  · rw [if_neg (by omega), if_neg h, sorted_right (over_may h1 h2) (over_apart h1 h2) (by omega)]
    rfl

section
variable {env : Nat → Option Def} {fr : Fr} {σ σ' : St} {K : Fr → St → Prop} {Q : X → Fr → St → Prop}
/-! ### a byte that is replaced -/
theorem may_size {m : Lab} (h : mayB m = true) : m.1.size ≤ 64 ∧ m.2.size ≤ 64 := by
  unfold mayB nameB valueB at h
  simp only [Bool.and_eq_true, decide_eq_true_eq] at h
  omega
end

section
variable {env : Nat → Option Def} {fr : Fr} {σ σ' : St} {K : Fr → St → Prop} {Q : X → Fr → St → Prop}
def bp (l : List UInt8) : List PV := l.map fun b => .sc (.int .u8 b.toNat)
def OS : List Nat := [7, 19, 24, 27, 49, 56, 59]
structure Wr (l : List Lab) (i : Nat) (m : Lab) (out : List UInt8) (fr : Fr) (σ : St) : Prop where
  f8 : fr 8 = .sl (labs l)
  f9 : fr 9 = .sc (.int .i64 l.length)
  f10 : fr 10 = .sc (.int .i64 i)
  f4 : fr 4 = .sc (.int .i64 i)
  f5 : ∃ g, fr 5 = .bx 2000005 g 2 0 0 ∧ σ.m 2000005 g = some ⟨2, [.agg [.sc (.string m.1), .sc (.string m.2)]], true, true⟩ ∧ g < σ.c 2000005
  g3 : Gat σ OS 1 false (fr 3) (bp out)
end

def d37 : Def := (.code 2 [.tmp 4] (.seq (.rg false [⟨.some 4, .none, .mv (.c (.int .i64 0))⟩]) (.seq (.seq (.rg false [⟨.some 6, .none, .mv (.t 0)⟩, ⟨.some 7, .none, .lenL (.t 6)⟩, ⟨.some 8, .none, .mv (.c (.int .i64 0))⟩]) (.block 0 (.loop (.seq (.rg false [⟨.some 9, .none, .bin .lss (.t 8) (.t 7)⟩]) (.seq (.cond (.t 9) .skip (.exit 0)) (.seq (.block 1 (.seq (.rg false [⟨.some 10, .none, .mv (.t 8)⟩, ⟨.some 5, .none, .mv (.t 10)⟩]) (.seq (.rg false [⟨.some 11, .none, .mv (.t 1)⟩, ⟨.some 12, .none, .mv (.t 0)⟩, ⟨.some 13, .none, .mv (.t 5)⟩, ⟨.some 14, .none, .ia 1 (.t 12) (.t 13)⟩, ⟨.some 15, .none, .ld .none (.t 14)⟩, ⟨.some 16, .none, .bin .eql (.t 11) (.t 15)⟩]) (.cond (.t 16) (.seq (.rg false [⟨.some 17, .none, .mv (.t 5)⟩, ⟨.some 4, .none, .mv (.t 17)⟩]) .ret) .skip)))) (.rg false [⟨.some 18, .none, .bin .add (.t 8) (.c (.int .i64 1))⟩, ⟨.some 8, .none, .mv (.t 18)⟩]))))))) (.seq (.rg false [⟨.some 4, .none, .mv (.c (.int .i64 (-1)))⟩]) .ret))))
def d50 : Def := (.code 2 [.tmp 4] (.seq (.rg false [⟨.some 4, .none, .mv (.c (.bool false))⟩]) (.seq (.rg false [⟨.some 5, .none, .mv (.t 0)⟩, ⟨.some 6, .none, .mv (.t 1)⟩, ⟨.some 7, .none, .call 37 .pure [.t 5, .t 6]⟩, ⟨.some 8, .none, .bin .geq (.t 7) (.c (.int .i64 0))⟩, ⟨.some 4, .none, .mv (.t 8)⟩]) .ret)))
def d247 : Def := (.code 2 [.tmp 3] (.seq (.rg false [⟨.some 2, .none, .box (.t 0)⟩, ⟨.some 3, .none, .mv (.c (.bool false))⟩]) (.seq (.rg false [⟨.some 4, .none, .ld .none (.t 1)⟩, ⟨.some 5, .none, .fa 0 (.t 2)⟩, ⟨.some 6, .none, .ld .none (.t 5)⟩, ⟨.some 7, .none, .call 50 .pure [.t 4, .t 6]⟩, ⟨.some 8, .none, .un .not (.t 7)⟩, ⟨.some 3, .none, .mv (.t 8)⟩]) .ret)))
def d243 : Def := (.code 1 [.tmp 2] (.seq (.rg false [⟨.some 2, .none, .mv (.c (.slice .none 0 0))⟩]) (.seq (.rg false [⟨.some 3, .none, .mv (.c (.slice .none 0 0))⟩]) (.seq (.seq (.rg false [⟨.some 6, .none, .mv (.t 0)⟩, ⟨.some 7, .none, .mv (.t 0)⟩, ⟨.some 8, .none, .lenL (.t 7)⟩, ⟨.some 9, .none, .mnmx false [.t 8, .c (.int .i64 10)]⟩, ⟨.some 10, .none, .slcL 1 (.t 6) .none (.some (.t 9))⟩, ⟨.some 11, .none, .lenL (.t 10)⟩, ⟨.some 12, .none, .mv (.c (.int .i64 0))⟩]) (.block 0 (.loop (.seq (.rg false [⟨.some 13, .none, .bin .lss (.t 12) (.t 11)⟩]) (.seq (.cond (.t 13) .skip (.exit 0)) (.seq (.block 1 (.seq (.rg false [⟨.some 14, .none, .ia 1 (.t 10) (.t 12)⟩, ⟨.some 15, .none, .ld .none (.t 14)⟩, ⟨.some 5, .none, .mv (.t 15)⟩]) (.rg false [⟨.some 16, .none, .mv (.t 3)⟩, ⟨.some 17, .none, .mv (.t 5)⟩, ⟨.some 18, .none, .mv (.t 5)⟩, ⟨.some 19, .none, .lenS (.t 18)⟩, ⟨.some 20, .none, .mnmx false [.t 19, .c (.int .i64 70)]⟩, ⟨.some 21, .none, .slcS (.t 17) .none (.some (.t 20))⟩, ⟨.some 22, .none, .bsl 1 (.string ⟨#[]⟩) 1 [(0, .t 21)]⟩, ⟨.some 23, .none, .app 1 16 false (.t 16) (.t 22)⟩, ⟨.some 3, .none, .mv (.t 23)⟩]))) (.rg false [⟨.some 24, .none, .bin .add (.t 12) (.c (.int .i64 1))⟩, ⟨.some 12, .none, .mv (.t 24)⟩]))))))) (.seq (.rg false [⟨.some 25, .none, .mv (.t 3)⟩, ⟨.some 2, .none, .mv (.t 25)⟩]) .ret)))))
def d245 : Def := (.code 2 [.tmp 4] (.seq (.rg false [⟨.some 4, .none, .mv (.c (.slice .none 0 0))⟩]) (.seq (.rg false [⟨.some 11, .none, .mv (.c (.slice .none 0 0))⟩, ⟨.some 5, .none, .mv (.t 11)⟩]) (.seq (.seq (.rg false [⟨.some 12, .none, .mv (.t 0)⟩, ⟨.some 13, .none, .lenL (.t 12)⟩, ⟨.some 14, .none, .mv (.c (.int .i64 0))⟩]) (.block 0 (.loop (.seq (.rg false [⟨.some 15, .none, .bin .lss (.t 14) (.t 13)⟩]) (.seq (.cond (.t 15) .skip (.exit 0)) (.seq (.block 1 (.seq (.rg false [⟨.some 16, .none, .ia 2 (.t 12) (.t 14)⟩, ⟨.some 17, .none, .ld (.some 2) (.t 16)⟩, ⟨.some 7, .none, .box (.c (.agg #[.string ⟨#[]⟩, .string ⟨#[]⟩]))⟩, ⟨.none, .none, .st 2 (.t 7) (.t 17)⟩]) (.seq (.rg false [⟨.some 8, .none, .mv (.c (.bool false))⟩]) (.seq (.seq (.rg false [⟨.some 18, .none, .mv (.t 1)⟩, ⟨.some 19, .none, .lenL (.t 18)⟩, ⟨.some 20, .none, .mv (.c (.int .i64 0))⟩]) (.block 2 (.loop (.seq (.rg false [⟨.some 21, .none, .bin .lss (.t 20) (.t 19)⟩]) (.seq (.cond (.t 21) .skip (.exit 2)) (.seq (.block 3 (.seq (.rg false [⟨.some 22, .none, .ia 1 (.t 18) (.t 20)⟩, ⟨.some 23, .none, .ld .none (.t 22)⟩, ⟨.some 10, .none, .mv (.t 23)⟩]) (.rg false [⟨.some 24, .none, .mv (.t 8)⟩, ⟨.some 25, .none, .mv (.t 24)⟩, ⟨.some 26, .some (25, false), .mv (.t 10)⟩, ⟨.some 27, .some (25, false), .fa 0 (.t 7)⟩, ⟨.some 28, .some (25, false), .ld .none (.t 27)⟩, ⟨.some 29, .some (25, false), .bin .eql (.t 26) (.t 28)⟩, ⟨.some 30, .none, .pick (.t 25) (.c (.bool true)) (.t 29)⟩, ⟨.some 8, .none, .mv (.t 30)⟩]))) (.rg false [⟨.some 31, .none, .bin .add (.t 20) (.c (.int .i64 1))⟩, ⟨.some 20, .none, .mv (.t 31)⟩]))))))) (.seq (.rg false [⟨.some 32, .none, .mv (.t 8)⟩]) (.cond (.t 32) (.rg false [⟨.some 33, .none, .mv (.t 5)⟩, ⟨.some 34, .none, .ld (.some 2) (.t 7)⟩, ⟨.some 35, .none, .bsl 2 (.agg #[.string ⟨#[]⟩, .string ⟨#[]⟩]) 1 [(0, .t 34)]⟩, ⟨.some 36, .none, .app 2 32 false (.t 33) (.t 35)⟩, ⟨.some 5, .none, .mv (.t 36)⟩]) .skip)))))) (.rg false [⟨.some 37, .none, .bin .add (.t 14) (.c (.int .i64 1))⟩, ⟨.some 14, .none, .mv (.t 37)⟩]))))))) (.seq (.rg false [⟨.some 38, .none, .mv (.t 5)⟩, ⟨.some 4, .none, .mv (.t 38)⟩]) .ret)))))
def lx : List (Nat × Def) := [(37, d37), (50, d50), (247, d247), (243, d243), (245, d245)]
section
variable {env : Nat → Option Def} {fr : Fr} {σ σ' : St} {K : Fr → St → Prop} {Q : X → Fr → St → Prop}
def strs (l : List ByteArray) : List PV := l.map fun s => .sc (.string s)
def nthS (l : List ByteArray) (i : Nat) : ByteArray := l[i]?.getD ⟨#[]⟩
def isS (l : List ByteArray) (s : ByteArray) (i : Nat) : Bool := s.toList == (nthS l i).toList
def hasN (l : List ByteArray) (s : ByteArray) : Bool := decide (found (isS l s) l.length ≥ 0)
def keepL (l : List Lab) (ns : List ByteArray) : List Lab := l.filter fun m => hasN ns m.1
end

section
variable {env : Nat → Option Def} {fr : Fr} {σ σ' : St} {K : Fr → St → Prop} {Q : X → Fr → St → Prop}
theorem found_min {p : Nat → Bool} {n i : Nat} (h : found p n = (i : Int)) : i < n ∧ p i = true ∧ ∀ j, j < i → p j = false := by
  unfold found at h
  cases hf : (List.range n).find? p with
  | none => rw [hf] at h; simp at h
  | some k =>
    rw [hf] at h
    simp only [Int.natCast_inj] at h
    subst h
    have h1 : k < n := by simpa using List.mem_of_find?_eq_some hf
    have h2 := List.find?_range_eq_some.1 hf
    exact ⟨h1, h2.1, fun j hj => by simpa using h2.2.2 j hj⟩
structure Del (l : List Lab) (ns : List ByteArray) (g g3 : Nat) (i j : Nat) (X : List Lab) (fr : Fr) (σ : St) : Prop where
  f0 : fr 0 = .ob 7 g 2 0 l.length
  f1 : fr 1 = .fn 247 [] [.bx 2000003 g3 1 0 0]
  f5 : fr 5 = .sc (.int .i64 (i : Int))
  f6 : fr 6 = .sc (.int .i64 (j : Int))
  lx : X.length = l.length
  ij : i < j
  tk : X.take i = keepL (l.take j) ns
  dr : X.drop j = l.drop j
  mm : σ.m 7 g = some ⟨2, labs X, true, true⟩
  gc : g < σ.c 7
  mq : ∃ wr, σ.m 2000003 g3 = some ⟨1, [.sl (strs ns)], true, wr⟩
end

theorem toList_inj {a b : ByteArray} (h : a.toList = b.toList) : a = b := by
  rw [ByteArray.toList_eq, ByteArray.toList_eq] at h
  exact Go.WideShapes.bytes_inj h
theorem names_of (l : List Lab) (i : Nat) (n : ByteArray) : isN l n i = true ↔ (nth l i).1 = n := by
  unfold isN
  rw [beq_iff_eq]
  exact ⟨toList_inj, fun h => by rw [h]⟩
theorem Apart.perm {l l' : List Lab} (h : Apart l) (hp : l.Perm l') : Apart l' := (hp.pairwise_iff (fun h => Ne.symm h)).1 h
theorem get_hit {l : List Lab} (h : Apart l) {m : Lab} (hm : m ∈ l) : getB l m.1 = m.2 := by
  obtain ⟨i, hi, rfl⟩ := List.getElem_of_mem hm
  obtain ⟨j, h1, h2, h3⟩ := found_is (p := isN l l[i].1) hi ((names_of _ _ _).2 (by rw [nth_eq hi]))
  rw [names_of, nth_eq h2] at h3
  have hij : j = i := by
    rcases Nat.lt_trichotomy j i with hlt | he | hgt
    · exact absurd h3 (List.pairwise_iff_getElem.1 h j i h2 hi hlt)
    · exact he
    · exact absurd h3.symm (List.pairwise_iff_getElem.1 h i j hi h2 hgt)
  subst hij
  unfold getB
  rw [h1, if_neg (by omega)]
  show (nth l ((j : Int)).toNat).2 = _
  rw [Int.toNat_natCast, nth_eq hi]
theorem get_miss {l : List Lab} {n : ByteArray} (h : ∀ m ∈ l, m.1 ≠ n) : getB l n = ⟨#[]⟩ := by
  unfold getB
  rw [found_none fun j hj => ?_]
  · rfl
  · cases hb : isN l n j with
    | false => rfl
    | true =>
      rw [names_of, nth_eq hj] at hb
      exact absurd hb (h _ (List.getElem_mem hj))
theorem new_err (l : List Lab) (h : (newL l).2 ≠ 0) : (newL l).1 = [] := by
  revert h
  unfold newL
  split
  · exact fun _ => rfl
  · split
    · exact fun _ => rfl
    · split
      · exact fun h => absurd rfl h
      · exact fun _ => rfl
theorem with_codes (a b : List Lab) (h : (withL a b).2 ≠ 0) : (withL a b).2 = 1 ∨ (withL a b).2 = 2 := by
  cases h1 : rightL a with
  | false => left; unfold withL; rw [h1]; rfl
  | true =>
    cases h2 : rightL b with
    | false => left; unfold withL; rw [h2]; simp
    | true =>
      rw [withL_right h1 h2] at h ⊢
      split
      · right; rfl
      · rename_i h8; rw [if_neg h8] at h; exact absurd rfl h
theorem with_err (a b : List Lab) (h : (withL a b).2 ≠ 0) : (withL a b).1 = [] := by
  unfold withL at h ⊢
  split
  · rfl
  · rename_i hc; rw [if_neg hc] at h; exact new_err _ h
theorem with_zero {a b : List Lab} (h : (withL a b).2 = 0) : rightL a = true ∧ rightL b = true ∧ withL a b = (sortedL (overL a b), 0) ∧ (overL a b).length ≤ 8 := by
  cases h1 : rightL a with
  | false => unfold withL at h; rw [h1] at h; simp at h
  | true =>
    cases h2 : rightL b with
    | false => unfold withL at h; rw [h2] at h; simp at h
    | true =>
      rw [withL_right h1 h2] at h ⊢
      split
      · rename_i h8; rw [if_pos h8] at h; simp at h
      · exact ⟨rfl, rfl, rfl, by omega⟩

def hasK (s : List Lab) (n : ByteArray) : Bool := s.any fun m => decide (m.1 = n)
theorem hasK_iff {s : List Lab} {n : ByteArray} : hasK s n = true ↔ ∃ m ∈ s, m.1 = n := by
  unfold hasK
  rw [List.any_eq_true]
  simp
theorem hasK_append (a b : List Lab) (n : ByteArray) : hasK (a ++ b) n = (hasK a n || hasK b n) := by
  unfold hasK
  rw [List.any_append]
def mE (l : List Lab) : List (Value × PV) := l.map fun m => (.string m.1, .sc (.string m.2))
theorem mE_len (l : List Lab) : (mE l).length = l.length := by simp [mE]
theorem mfind_mE (n : ByteArray) : ∀ s : List Lab, mfind (.string n) (mE s) = some (if hasK s n = true then some (.sc (.string (getB s n))) else none)
  | [] => rfl
  | m :: s => by
    have ih := mfind_mE n s
    have hc : getB (m :: s) n = if m.1 = n then m.2 else getB s n := by
      by_cases h : m.1 = n
      · rw [if_pos h]
        unfold getB
        have : found (isN (m :: s) n) (m :: s).length = 0 := found_hit (i := 0) (by simp) (fun j hj => by omega) (by unfold isN; simp [nth, h])
        rw [this, if_neg (by decide)]
        rfl
      · rw [if_neg h]
        by_cases hk : ∃ x ∈ s, x.1 = n
        · obtain ⟨x, hx, he⟩ := hk
          obtain ⟨i, hi⟩ := List.getElem?_of_mem hx
          have hil : i < s.length := (List.getElem?_eq_some_iff.1 hi).1
          have hpi : isN s n i = true := by unfold isN nth; rw [hi]; simp [he]
          obtain ⟨j, hj, _, _⟩ := found_is hil hpi
          obtain ⟨hjl, hjp, hjm⟩ := found_min hj
          have h2 : found (isN (m :: s) n) (m :: s).length = ((j + 1 : Nat) : Int) := found_hit (by simpa using hjl) (fun k hk => by
            cases k with
            | zero => unfold isN nth; simp only [List.getElem?_cons_zero, Option.getD_some, beq_eq_false_iff_ne]; exact fun e => h (toList_inj e)
            | succ k => exact hjm k (by omega)) hjp
          unfold getB
          rw [hj, h2, if_neg (by omega), if_neg (by omega), Int.toNat_natCast, Int.toNat_natCast]
          rfl
        · rw [get_miss fun x hx he => ?_, get_miss fun x hx he => hk ⟨x, hx, he⟩]
          rcases List.mem_cons.1 hx with rfl | hx
          · exact h he
          · exact hk ⟨x, hx, he⟩
    show (match same1 (.string n) (.string m.1) with
      | some true => some (some (PV.sc (.string m.2)))
      | some false => mfind (.string n) (mE s)
      | none => none) = _
    have hs : same1 (.string n) (.string m.1) = some (decide (n = m.1)) := rfl
    rw [hs]
    by_cases h : m.1 = n
    · have : decide (n = m.1) = true := decide_eq_true h.symm
      rw [this]
      have hh : hasK (m :: s) n = true := hasK_iff.2 ⟨m, by simp, h⟩
      rw [hh, if_pos rfl, hc, if_pos h]
    · have : decide (n = m.1) = false := decide_eq_false (Ne.symm h)
      rw [this]
      simp only
      rw [ih, hc, if_neg h]
      have hh : hasK (m :: s) n = hasK s n := by unfold hasK; rw [List.any_cons, decide_eq_false h, Bool.false_or]
      rw [hh]
theorem mset_mE (n v : ByteArray) : ∀ s : List Lab, hasK s n = false → mset (.string n) (.sc (.string v)) (mE s) = some (mE (s ++ [(n, v)]))
  | [], _ => rfl
  | m :: s, h => by
    have h1 : ¬ m.1 = n := fun e => by rw [hasK_iff.2 ⟨m, by simp, e⟩] at h; cases h
    have h2 : hasK s n = false := by
      unfold hasK at h ⊢
      rw [List.any_cons, Bool.or_eq_false_iff] at h
      exact h.2
    have ih := mset_mE n v s h2
    show (match same1 (.string n) (.string m.1) with
      | some true => some ((Value.string n, PV.sc (.string v)) :: mE s)
      | some false => (mset (.string n) (.sc (.string v)) (mE s)).map ((.string m.1, .sc (.string m.2)) :: ·)
      | none => none) = _
    have hs : same1 (.string n) (.string m.1) = some (decide (n = m.1)) := rfl
    rw [hs, decide_eq_false (Ne.symm h1)]
    simp only
    rw [ih]
    rfl
def alertL (r : Rule) : List Lab := [(alertT, r.name)]
def seenL (r : Rule) (l : List Lab) : List Lab := (alertL r ++ r.labels) ++ l.filter fun x => !hasK (alertL r ++ r.labels) x.1
theorem miss_iff {k : List Lab} (hk : ∀ m ∈ k, mayB m = true) (x : Lab) : missB k x = !hasK k x.1 := by
  cases h : missB k x with
  | true =>
    have : hasK k x.1 = false := by
      cases hh : hasK k x.1 with
      | false => rfl
      | true =>
        obtain ⟨m, hm, he⟩ := hasK_iff.1 hh
        exact absurd he (miss_apart hk h hm)
    rw [this]; rfl
  | false =>
    have : hasK k x.1 = true := by
      cases hh : hasK k x.1 with
      | true => rfl
      | false =>
        have : missB k x = true := by
          unfold missB
          rw [get_miss fun m hm he => ?_]
          · simp
          · rw [hasK_iff.2 ⟨m, hm, he⟩] at hh; cases hh
        rw [this] at h; cases h
    rw [this]; rfl
theorem alert_no {r : Rule} (h : rightR r = true) : hasK r.labels alertT = false := by
  unfold rightR at h
  simp only [Bool.and_eq_true] at h
  have hl := right_iff.1 h.1.2
  have hm : missB r.labels (alertT, r.name) = true := h.2
  rw [miss_iff hl.1] at hm
  simpa using hm
theorem labels_zero {r : Rule} {l : List Lab} (h : (labelsR r l).2 = 0) : rightR r = true ∧ rightL l = true ∧ rightL r.labels = true ∧ rightL (labelsR r l).1 = true ∧ (labelsR r l).1.Perm (seenL r l) := by
  unfold labelsR at h ⊢
  cases hr : rightR r with
  | false => rw [hr] at h; simp at h
  | true =>
    rw [hr] at h
    simp only [Bool.not_true, Bool.false_eq_true, if_false] at h ⊢
    by_cases hw : (withL l r.labels).2 = 0
    · have hb : ((withL l r.labels).2 != 0) = false := by rw [hw]; rfl
      rw [hb] at h ⊢
      simp only [Bool.false_eq_true, if_false] at h ⊢
      obtain ⟨h1, h2, h3, _⟩ := with_zero hw
      obtain ⟨h4, h5, h6, _⟩ := with_zero h
      refine ⟨trivial, h1, h2, withL_ok h, ?_⟩
      rw [h6]
      rw [h3]
      refine (sorted_perm _).trans ?_
      have hA : ∀ m ∈ alertL r, mayB m = true := (right_iff.1 h5).1
      have hR := (right_iff.1 h2).1
      have hno := alert_no hr
      show ((alertL r) ++ (sortedL (overL l r.labels)).filter (missB (alertL r))).Perm _
      unfold seenL
      rw [List.append_assoc]
      refine List.Perm.append_left _ ?_
      refine ((sorted_perm (overL l r.labels)).filter _).trans ?_
      unfold overL
      rw [List.filter_append, List.filter_filter]
      have e1 : r.labels.filter (missB (alertL r)) = r.labels := by
        rw [List.filter_eq_self]
        intro m hm
        rw [miss_iff hA]
        have : hasK (alertL r) m.1 = false := by
          cases hh : hasK (alertL r) m.1 with
          | false => rfl
          | true =>
            obtain ⟨a, ha, he⟩ := hasK_iff.1 hh
            simp only [alertL, List.mem_singleton] at ha
            subst ha
            rw [hasK_iff.2 ⟨m, hm, he.symm⟩] at hno
            cases hno
        rw [this]; rfl
      have e2 : (l.filter fun a => missB (alertL r) a && missB r.labels a) = l.filter fun x => !hasK (alertL r ++ r.labels) x.1 := by
        congr 1
        funext x
        rw [miss_iff hA, miss_iff hR, hasK_append]
        cases hasK (alertL r) x.1 <;> cases hasK r.labels x.1 <;> rfl
      rw [e1, e2]
    · have hb : ((withL l r.labels).2 != 0) = true := by simpa using hw
      rw [hb] at h
      simp only [if_true] at h
      exact absurd h hw
theorem labels_err {r : Rule} {l : List Lab} (h : (labelsR r l).2 ≠ 0) : (labelsR r l).1 = [] ∧ ((labelsR r l).2 = 1 ∨ (labelsR r l).2 = 2) := by
  unfold labelsR at h ⊢
  cases hr : rightR r with
  | false => simp
  | true =>
    rw [hr] at h
    simp only [Bool.not_true, Bool.false_eq_true, if_false] at h ⊢
    by_cases hw : (withL l r.labels).2 = 0
    · have hb : ((withL l r.labels).2 != 0) = false := by rw [hw]; rfl
      rw [hb] at h ⊢
      simp only [Bool.false_eq_true, if_false] at h ⊢
      exact ⟨with_err _ _ h, with_codes _ _ h⟩
    · have hb : ((withL l r.labels).2 != 0) = true := by simpa using hw
      rw [hb]
      simp only [if_true]
      exact ⟨trivial, with_codes _ _ hw⟩
theorem seen_get {r : Rule} {l : List Lab} (h : (labelsR r l).2 = 0) {x : Lab} (hx : x ∈ (labelsR r l).1) : hasK (seenL r l) x.1 = true ∧ getB (seenL r l) x.1 = x.2 := by
  obtain ⟨_, _, _, h4, hp⟩ := labels_zero h
  have ha := (right_iff.1 h4).2.1.apart
  have hx2 := hp.subset hx
  exact ⟨hasK_iff.2 ⟨x, hx2, rfl⟩, get_hit (ha.perm hp) hx2⟩

def d103 : Def := (.code 2 [.tmp 4] (.seq (.rg false [⟨.some 2, .none, .box (.t 0)⟩, ⟨.some 4, .none, .mv (.c (.bool false))⟩]) (.seq (.rg false [⟨.some 16, .none, .ld (.some 8) (.t 2)⟩, ⟨.some 17, .none, .call 104 .pure [.t 16]⟩, ⟨.some 18, .none, .mv (.t 1)⟩, ⟨.some 19, .none, .call 108 .pure [.t 18]⟩, ⟨.none, .none, .st 8 (.t 2) (.t 17)⟩, ⟨.some 1, .none, .mv (.t 19)⟩]) (.seq (.rg false [⟨.some 21, .none, .ld (.some 8) (.t 2)⟩, ⟨.some 22, .none, .mv (.t 1)⟩, ⟨.some 23, .none, .call 109 .pure [.t 21, .t 22]⟩, ⟨.some 20, .none, .mv (.t 23)⟩, ⟨.some 24, .none, .ext (.t 20) 0⟩, ⟨.some 25, .none, .ext (.t 20) 1⟩, ⟨.some 5, .none, .mv (.t 24)⟩, ⟨.some 6, .none, .mv (.t 25)⟩]) (.seq (.seq (.rg false [⟨.some 26, .none, .mv (.t 6)⟩, ⟨.some 27, .none, .bin .neq (.t 26) (.c (.int .i64 0))⟩]) (.cond (.t 27) (.seq (.rg false [⟨.some 28, .none, .call 106 .pure []⟩, ⟨.some 29, .none, .mv (.t 28)⟩, ⟨.some 30, .some (29, true), .mv (.t 5)⟩, ⟨.some 31, .some (29, true), .lenL (.t 30)⟩, ⟨.some 32, .some (29, true), .bin .eql (.t 31) (.c (.int .i64 0))⟩, ⟨.some 33, .none, .pick (.t 29) (.t 32) (.c (.bool false))⟩, ⟨.some 34, .none, .mv (.t 33)⟩, ⟨.some 35, .some (34, true), .mv (.t 6)⟩, ⟨.some 36, .some (34, true), .bin .eql (.t 35) (.c (.int .i64 1))⟩, ⟨.some 37, .some (34, true), .mv (.t 36)⟩, ⟨.some 38, .some (37, false), .mv (.t 6)⟩, ⟨.some 39, .some (37, false), .bin .eql (.t 38) (.c (.int .i64 2))⟩, ⟨.some 40, .some (34, true), .pick (.t 37) (.c (.bool true)) (.t 39)⟩, ⟨.some 41, .none, .pick (.t 34) (.t 40) (.c (.bool false))⟩, ⟨.some 4, .none, .mv (.t 41)⟩]) .ret) .skip)) (.seq (.rg false [⟨.some 42, .none, .mkm⟩, ⟨.some 43, .none, .fa 0 (.t 2)⟩, ⟨.some 44, .none, .ld .none (.t 43)⟩, ⟨.none, .none, .mput 2 (.t 42) (.c (.string ⟨#[97, 108, 101, 114, 116]⟩)) (.t 44)⟩, ⟨.some 45, .none, .mv (.t 42)⟩, ⟨.some 7, .none, .mv (.t 45)⟩]) (.seq (.seq (.rg false [⟨.some 46, .none, .fa 7 (.t 2)⟩, ⟨.some 47, .none, .ld .none (.t 46)⟩, ⟨.some 48, .none, .lenL (.t 47)⟩, ⟨.some 49, .none, .mv (.c (.int .i64 0))⟩]) (.block 0 (.loop (.seq (.rg false [⟨.some 50, .none, .bin .lss (.t 49) (.t 48)⟩]) (.seq (.cond (.t 50) .skip (.exit 0)) (.seq (.block 1 (.seq (.rg false [⟨.some 51, .none, .ia 2 (.t 47) (.t 49)⟩, ⟨.some 52, .none, .ld (.some 2) (.t 51)⟩, ⟨.some 9, .none, .box (.c (.agg #[.string ⟨#[]⟩, .string ⟨#[]⟩]))⟩, ⟨.none, .none, .st 2 (.t 9) (.t 52)⟩]) (.rg false [⟨.some 53, .none, .mv (.t 7)⟩, ⟨.some 54, .none, .fa 0 (.t 9)⟩, ⟨.some 55, .none, .ld .none (.t 54)⟩, ⟨.some 56, .none, .fa 1 (.t 9)⟩, ⟨.some 57, .none, .ld .none (.t 56)⟩, ⟨.none, .none, .mput 2 (.t 53) (.t 55) (.t 57)⟩]))) (.rg false [⟨.some 58, .none, .bin .add (.t 49) (.c (.int .i64 1))⟩, ⟨.some 49, .none, .mv (.t 58)⟩]))))))) (.seq (.seq (.rg false [⟨.some 59, .none, .mv (.t 1)⟩, ⟨.some 60, .none, .lenL (.t 59)⟩, ⟨.some 61, .none, .mv (.c (.int .i64 0))⟩]) (.block 2 (.loop (.seq (.rg false [⟨.some 62, .none, .bin .lss (.t 61) (.t 60)⟩]) (.seq (.cond (.t 62) .skip (.exit 2)) (.seq (.block 3 (.seq (.rg false [⟨.some 63, .none, .ia 2 (.t 59) (.t 61)⟩, ⟨.some 64, .none, .ld (.some 2) (.t 63)⟩, ⟨.some 11, .none, .box (.c (.agg #[.string ⟨#[]⟩, .string ⟨#[]⟩]))⟩, ⟨.none, .none, .st 2 (.t 11) (.t 64)⟩]) (.seq (.rg false [⟨.some 66, .none, .mv (.t 7)⟩, ⟨.some 67, .none, .fa 0 (.t 11)⟩, ⟨.some 68, .none, .ld .none (.t 67)⟩, ⟨.some 69, .none, .mget 2 (.string ⟨#[]⟩) true (.t 66) (.t 68)⟩, ⟨.some 65, .none, .mv (.t 69)⟩, ⟨.some 70, .none, .ext (.t 65) 0⟩, ⟨.some 71, .none, .ext (.t 65) 1⟩, ⟨.some 12, .none, .mv (.t 70)⟩, ⟨.some 13, .none, .mv (.t 71)⟩]) (.seq (.rg false [⟨.some 72, .none, .mv (.t 13)⟩, ⟨.some 73, .none, .un .not (.t 72)⟩]) (.cond (.t 73) (.rg false [⟨.some 74, .none, .mv (.t 7)⟩, ⟨.some 75, .none, .fa 0 (.t 11)⟩, ⟨.some 76, .none, .ld .none (.t 75)⟩, ⟨.some 77, .none, .fa 1 (.t 11)⟩, ⟨.some 78, .none, .ld .none (.t 77)⟩, ⟨.none, .none, .mput 2 (.t 74) (.t 76) (.t 78)⟩]) .skip))))) (.rg false [⟨.some 79, .none, .bin .add (.t 61) (.c (.int .i64 1))⟩, ⟨.some 61, .none, .mv (.t 79)⟩]))))))) (.seq (.seq (.rg false [⟨.some 80, .none, .mv (.t 5)⟩, ⟨.some 81, .none, .lenL (.t 80)⟩, ⟨.some 82, .none, .mv (.c (.int .i64 0))⟩]) (.block 4 (.loop (.seq (.rg false [⟨.some 83, .none, .bin .lss (.t 82) (.t 81)⟩]) (.seq (.cond (.t 83) .skip (.exit 4)) (.seq (.block 5 (.seq (.rg false [⟨.some 84, .none, .ia 2 (.t 80) (.t 82)⟩, ⟨.some 85, .none, .ld (.some 2) (.t 84)⟩, ⟨.some 15, .none, .box (.c (.agg #[.string ⟨#[]⟩, .string ⟨#[]⟩]))⟩, ⟨.none, .none, .st 2 (.t 15) (.t 85)⟩]) (.seq (.rg false [⟨.some 86, .none, .mv (.t 7)⟩, ⟨.some 87, .none, .fa 0 (.t 15)⟩, ⟨.some 88, .none, .ld .none (.t 87)⟩, ⟨.some 89, .none, .mget 2 (.string ⟨#[]⟩) false (.t 86) (.t 88)⟩, ⟨.some 90, .none, .fa 1 (.t 15)⟩, ⟨.some 91, .none, .ld .none (.t 90)⟩, ⟨.some 92, .none, .bin .neq (.t 89) (.t 91)⟩]) (.cond (.t 92) (.seq (.rg false [⟨.some 4, .none, .mv (.c (.bool false))⟩]) .ret) .skip)))) (.rg false [⟨.some 93, .none, .bin .add (.t 82) (.c (.int .i64 1))⟩, ⟨.some 82, .none, .mv (.t 93)⟩]))))))) (.seq (.rg false [⟨.some 94, .none, .call 106 .pure []⟩, ⟨.some 95, .none, .mv (.t 94)⟩, ⟨.some 96, .some (95, true), .mv (.t 5)⟩, ⟨.some 97, .some (95, true), .lenL (.t 96)⟩, ⟨.some 98, .some (95, true), .mv (.t 7)⟩, ⟨.some 99, .some (95, true), .mlen (.t 98)⟩, ⟨.some 100, .some (95, true), .bin .eql (.t 97) (.t 99)⟩, ⟨.some 101, .none, .pick (.t 95) (.t 100) (.c (.bool false))⟩, ⟨.some 102, .none, .mv (.t 101)⟩, ⟨.some 103, .some (102, true), .mv (.t 5)⟩, ⟨.some 104, .some (102, true), .call 110 .pure [.t 103]⟩, ⟨.some 105, .none, .pick (.t 102) (.t 104) (.c (.bool false))⟩, ⟨.some 4, .none, .mv (.t 105)⟩]) .ret))))))))))
def lhk : List (Nat × Def) := [(103, d103)]
section
variable {env : Nat → Option Def} {fr : Fr} {σ σ' σ'' : St} {K : Fr → St → Prop} {Q : X → Fr → St → Prop} {p : PV} {bs : List UInt8}
theorem hasK_no {s : List Lab} {n : ByteArray} (h : ∀ m ∈ s, m.1 ≠ n) : hasK s n = false := by
  cases hh : hasK s n with
  | false => rfl
  | true =>
    obtain ⟨m, hm, he⟩ := hasK_iff.1 hh
    exact absurd he (h m hm)
theorem apart_before {l : List Lab} (h : Apart l) {i : Nat} (hi : i < l.length) : ∀ m ∈ l.take i, m.1 ≠ l[i].1 := by
  intro m hm
  obtain ⟨j, hj⟩ := List.getElem?_of_mem hm
  have hjl : j < (l.take i).length := (List.getElem?_eq_some_iff.1 hj).1
  rw [List.length_take] at hjl
  rw [List.getElem?_take, if_pos (by omega), List.getElem?_eq_getElem (by omega)] at hj
  simp only [Option.some.injEq] at hj
  subst hj
  exact List.pairwise_iff_getElem.1 h j i (by omega) hi (by omega)
theorem small_le {s : ByteArray} (h : s.size ≤ 64) : Small s := by unfold Small; omega
theorem a103 (H : Has la env) (G : Has lc env) (F : Has lf env) (I : Has lg env) (J : Has li env) (O : Has lo env) (P : Has lp env) (V : Has lq env) (L0 : Has ll0 env) (M0 : Has lm0 env) (T : Has lhk env) (B : Bits env)
    (hal : AV env 106 [] = some (.sc (.bool true))) {x : Rule} (hx : x.labels.length ≤ 9223372036854775807) {l : List Lab} (hl : l.length ≤ 9223372036854775807) : AV env 103 [rule x, .sl (labs l)] = some (.sc (.bool true)) := by
  have h1 := a104 J hx
  have f1 := cutR_fits x
  generalize cutR x = a at h1 f1
  have h2 := a108 J hl
  have k2 : (fewL l).length ≤ 10 := by rw [fewL_len]; omega
  have s2 := fewL_smalls l
  generalize fewL l = w at h2 k2 s2
  have h3 := a109 H G F I O P V B f1 (l := w) (by omega) s2
  have hz := @labels_zero a w
  have herr := @labels_err a w
  have hget := @seen_get a w
  rcases hq : labelsR a w with ⟨m, e⟩
  rw [hq] at h3 hz herr hget
  simp only at h3 hz herr hget
  have hml := labs_len m
  have hwl := labs_len w
  have hal' := labs_len a.labels
  refine AV_wp (T (103, d103) (by simp [lhk])) rfl ?_
  simp only [rule] at h1 h3 ⊢
  (repeat' first
    | refine w_seq ?_ | refine w_rg ?_ | refine wo_nil ?_ | refine g_skU ?_ | refine g_skT ?_ | refine g_skF ?_
    | ((first | apply s_plain | apply s_void | apply s_guard | apply g_goT | apply g_goF); · simp only [go_sem, Nat.reduceEqDiff, Nat.reduceAdd, Nat.reduceLeDiff, h1, h2]; (first | done | rfl))
    | ((first | apply g_T | apply g_F | apply g_gT | apply g_gF); · intro q1_; (first | intro q2_ | have q2_ := q1_); simp only [go_sem, Nat.reduceEqDiff, Nat.reduceAdd, Nat.reduceLeDiff, h1, h2, q1_, q2_]; (first | done | rfl))
    | fail
    )
  (repeat' first
    | refine w_seq ?_ | refine w_rg ?_ | refine wo_nil ?_ | refine g_skU ?_ | refine g_skT ?_ | refine g_skF ?_
    | ((first | apply s_plain | apply s_void | apply s_guard | apply g_goT | apply g_goF); · simp only [go_sem, Nat.reduceEqDiff, Nat.reduceAdd, Nat.reduceLeDiff, h3]; (first | done | rfl))
    | ((first | apply g_T | apply g_F | apply g_gT | apply g_gF); · intro q1_; (first | intro q2_ | have q2_ := q1_); simp only [go_sem, Nat.reduceEqDiff, Nat.reduceAdd, Nat.reduceLeDiff, h3, q1_, q2_]; (first | done | rfl))
    | fail
    )
  by_cases he : e = 0
  · subst he
    obtain ⟨ra, rw', rl, rm, hp⟩ := hz rfl
    have hm0 : mset (.string ⟨#[97, 108, 101, 114, 116]⟩) (.sc (.string a.name)) [] = some (mE (alertL a)) := rfl
    have h110 := a110 L0 M0 (l := m) (by have := right_len rm; omega) (fun y hy => ⟨small_le (may_size ((right_iff.1 rm).1 y hy)).1, small_le (may_size ((right_iff.1 rm).1 y hy)).2⟩)
    rw [rm] at h110
    (repeat' first
    | refine w_seq ?_ | refine w_rg ?_ | refine wo_nil ?_ | refine g_skU ?_ | refine g_skT ?_ | refine g_skF ?_
    | ((first | apply s_plain | apply s_void | apply s_guard | apply g_goT | apply g_goF); · simp only [go_sem, Nat.reduceEqDiff, Nat.reduceAdd, Nat.reduceLeDiff, bne_self_eq_false]; (first | done | rfl))
    | ((first | apply g_T | apply g_F | apply g_gT | apply g_gF); · intro q1_; (first | intro q2_ | have q2_ := q1_); simp only [go_sem, Nat.reduceEqDiff, Nat.reduceAdd, Nat.reduceLeDiff, bne_self_eq_false, q1_, q2_]; (first | done | rfl))
    | (apply w_condX; · simp only [go_sem, Nat.reduceEqDiff, Nat.reduceAdd, Nat.reduceLeDiff, bne_self_eq_false]; (first | done | rfl)); (first | refine wcd_T ?_ | refine wcd_F ?_)
    | refine w_skip ?_ | refine w_exit ?_ | refine w_ret ?_
    | fail
    )
    (repeat' first
    | refine w_seq ?_ | refine w_rg ?_ | refine wo_nil ?_ | refine g_skU ?_ | refine g_skT ?_ | refine g_skF ?_
    | ((first | apply s_plain | apply s_void | apply s_guard | apply g_goT | apply g_goF); · simp only [go_sem, Nat.reduceEqDiff, Nat.reduceAdd, Nat.reduceLeDiff, hm0]; (first | done | rfl))
    | ((first | apply g_T | apply g_F | apply g_gT | apply g_gF); · intro q1_; (first | intro q2_ | have q2_ := q1_); simp only [go_sem, Nat.reduceEqDiff, Nat.reduceAdd, Nat.reduceLeDiff, hm0, q1_, q2_]; (first | done | rfl))
    | fail
    )
    have rA := (right_iff.1 rl).2.1.apart
    have wA := (right_iff.1 rw').2.1.apart
    have hno := alert_no ra
    have hrl := right_len rl
    have hmm := right_len rm
    refine w_block (w_rangeF a.labels.length (by omega) (fun i fr σ => σ.mm 4000042 0 = some (mE (alertL a ++ a.labels.take i))) ⟨by decide, rfl, rfl⟩ (fun _ _ _ _ h => ⟨h, h, h⟩) (by simp only [go_sem, Nat.reduceEqDiff, Nat.reduceAdd, Nat.reduceLeDiff]; rfl) (by simp only [go_sem, Nat.reduceEqDiff, Nat.reduceAdd, Nat.reduceLeDiff]; first | done | rfl) (by simp only [go_sem, Nat.reduceEqDiff, Nat.reduceAdd, Nat.reduceLeDiff, hal']; first | done | rfl) ?_ ?_)
    · rintro i fr1 σ1 hi g1 hti hfr
      have k7 := hfr 7 rfl
      have k47 := hfr 47 rfl
      simp only [go_sem, Nat.reduceEqDiff, Nat.reduceAdd, Nat.reduceLeDiff] at k7 k47
      have hy := labs_at (List.getElem?_eq_getElem hi)
      simp only [lab] at hy
      have e1 : (0 : Int) ≤ (i : Int) ∧ (i : Int) < (a.labels.length : Int) := by omega
      have hset := mset_mE a.labels[i].1 a.labels[i].2 (alertL a ++ a.labels.take i) (by
        rw [hasK_append, hasK_no (apart_before rA hi), Bool.or_false]
        refine hasK_no fun y hy he => ?_
        simp only [alertL, List.mem_singleton] at hy
        subst hy
        rw [hasK_iff.2 ⟨a.labels[i], List.getElem_mem hi, he.symm⟩] at hno
        cases hno)
      rw [List.append_assoc, show [(a.labels[i].1, a.labels[i].2)] = [a.labels[i]] from rfl, ← List.take_succ_eq_append_getElem hi] at hset
      refine w_block ?_
      (repeat' first
    | refine w_seq ?_ | refine w_rg ?_ | refine wo_nil ?_ | refine g_skU ?_ | refine g_skT ?_ | refine g_skF ?_
    | ((first | apply s_plain | apply s_void | apply s_guard | apply g_goT | apply g_goF); · simp only [go_sem, Nat.reduceEqDiff, Nat.reduceAdd, Nat.reduceLeDiff, k7, k47, hti, e1, hal', Int.toNat_natCast, hy, List.modify_zero_cons, g1, hset]; (first | done | rfl))
    | ((first | apply g_T | apply g_F | apply g_gT | apply g_gF); · intro q1_; (first | intro q2_ | have q2_ := q1_); simp only [go_sem, Nat.reduceEqDiff, Nat.reduceAdd, Nat.reduceLeDiff, k7, k47, hti, e1, hal', Int.toNat_natCast, hy, List.modify_zero_cons, g1, hset, q1_, q2_]; (first | done | rfl))
    | fail
    )
      simp only [go_sem, Nat.reduceEqDiff, Nat.reduceAdd, Nat.reduceLeDiff]
    rintro fr1 σ1 g1 hfr
    try simp only [if_true]
    rw [List.take_of_length_le (Nat.le_refl _)] at g1
    have k7 := hfr 7 rfl
    have k1 := hfr 1 rfl
    have k5 := hfr 5 rfl
    simp only [go_sem, Nat.reduceEqDiff, Nat.reduceAdd, Nat.reduceLeDiff] at k7 k1 k5
    clear hfr
    (repeat' first
    | refine w_seq ?_ | refine w_rg ?_ | refine wo_nil ?_ | refine g_skU ?_ | refine g_skT ?_ | refine g_skF ?_
    | ((first | apply s_plain | apply s_void | apply s_guard | apply g_goT | apply g_goF); · simp only [go_sem, Nat.reduceEqDiff, Nat.reduceAdd, Nat.reduceLeDiff, k1, hwl]; (first | done | rfl))
    | ((first | apply g_T | apply g_F | apply g_gT | apply g_gF); · intro q1_; (first | intro q2_ | have q2_ := q1_); simp only [go_sem, Nat.reduceEqDiff, Nat.reduceAdd, Nat.reduceLeDiff, k1, hwl, q1_, q2_]; (first | done | rfl))
    | fail
    )
    refine w_block (w_rangeF w.length (by omega) (fun i fr σ => σ.mm 4000042 0 = some (mE ((alertL a ++ a.labels) ++ (w.take i).filter fun x => !hasK (alertL a ++ a.labels) x.1))) ⟨by decide, rfl, rfl⟩ (fun _ _ _ _ h => ⟨h, h, h⟩) (by simp only [go_sem, Nat.reduceEqDiff, Nat.reduceAdd, Nat.reduceLeDiff, g1, List.take_zero, List.filter_nil, List.append_nil]) (by simp only [go_sem, Nat.reduceEqDiff, Nat.reduceAdd, Nat.reduceLeDiff]; first | done | rfl) (by simp only [go_sem, Nat.reduceEqDiff, Nat.reduceAdd, Nat.reduceLeDiff, hwl]; first | done | rfl) ?_ ?_)
    · rintro i fr2 σ2 hi g2 hti hfr
      have q7 := hfr 7 rfl
      have q59 := hfr 59 rfl
      simp only [go_sem, Nat.reduceEqDiff, Nat.reduceAdd, Nat.reduceLeDiff, k7, k1] at q7 q59
      have hy := labs_at (List.getElem?_eq_getElem hi)
      simp only [lab] at hy
      have e1 : (0 : Int) ≤ (i : Int) ∧ (i : Int) < (w.length : Int) := by omega
      have hK : hasK ((alertL a ++ a.labels) ++ (w.take i).filter fun x => !hasK (alertL a ++ a.labels) x.1) w[i].1 = hasK (alertL a ++ a.labels) w[i].1 := by
        rw [hasK_append, hasK_no (s := (w.take i).filter _) (fun y hy => apart_before wA hi y (List.mem_filter.1 hy).1), Bool.or_false]
      have hfind := mfind_mE w[i].1 ((alertL a ++ a.labels) ++ (w.take i).filter fun x => !hasK (alertL a ++ a.labels) x.1)
      have hstep : ((w.take (i + 1)).filter fun x => !hasK (alertL a ++ a.labels) x.1) = ((w.take i).filter fun x => !hasK (alertL a ++ a.labels) x.1) ++ if hasK (alertL a ++ a.labels) w[i].1 = true then [] else [w[i]] := by
        rw [List.take_succ_eq_append_getElem hi, List.filter_append]
        congr 1
        cases hh : hasK (alertL a ++ a.labels) w[i].1 <;> simp [hh]
      have hset := mset_mE w[i].1 w[i].2 ((alertL a ++ a.labels) ++ (w.take i).filter fun x => !hasK (alertL a ++ a.labels) x.1)
      rw [hK] at hfind hset
      rw [hstep]
      generalize hasK (alertL a ++ a.labels) w[i].1 = b at hfind hset ⊢
      rw [← List.append_assoc]
      generalize ((alertL a ++ a.labels) ++ (w.take i).filter fun x => !hasK (alertL a ++ a.labels) x.1) = S at g2 hfind hset ⊢
      refine w_block ?_
      cases b with
      | true =>
        rw [if_pos rfl] at hfind
        (repeat' first
    | refine w_seq ?_ | refine w_rg ?_ | refine wo_nil ?_ | refine g_skU ?_ | refine g_skT ?_ | refine g_skF ?_
    | ((first | apply s_plain | apply s_void | apply s_guard | apply g_goT | apply g_goF); · simp only [go_sem, Nat.reduceEqDiff, Nat.reduceAdd, Nat.reduceLeDiff, q7, q59, hti, e1, hwl, Int.toNat_natCast, hy, List.modify_zero_cons, g2, hfind, Option.getD_some, Option.isSome_some]; (first | done | rfl))
    | ((first | apply g_T | apply g_F | apply g_gT | apply g_gF); · intro q1_; (first | intro q2_ | have q2_ := q1_); simp only [go_sem, Nat.reduceEqDiff, Nat.reduceAdd, Nat.reduceLeDiff, q7, q59, hti, e1, hwl, Int.toNat_natCast, hy, List.modify_zero_cons, g2, hfind, Option.getD_some, Option.isSome_some, q1_, q2_]; (first | done | rfl))
    | fail
    )
        (repeat' first
    | refine w_seq ?_ | refine w_rg ?_ | refine wo_nil ?_ | refine g_skU ?_ | refine g_skT ?_ | refine g_skF ?_
    | ((first | apply s_plain | apply s_void | apply s_guard | apply g_goT | apply g_goF); · simp only [go_sem, Nat.reduceEqDiff, Nat.reduceAdd, Nat.reduceLeDiff]; (first | done | rfl))
    | ((first | apply g_T | apply g_F | apply g_gT | apply g_gF); · intro q1_; (first | intro q2_ | have q2_ := q1_); simp only [go_sem, Nat.reduceEqDiff, Nat.reduceAdd, Nat.reduceLeDiff, q1_, q2_]; (first | done | rfl))
    | (apply w_condX; · simp only [go_sem, Nat.reduceEqDiff, Nat.reduceAdd, Nat.reduceLeDiff]; (first | done | rfl)); (first | refine wcd_T ?_ | refine wcd_F ?_)
    | refine w_skip ?_ | refine w_exit ?_ | refine w_ret ?_
    | fail
    )
        simp only [go_sem, Nat.reduceEqDiff, Nat.reduceAdd, Nat.reduceLeDiff, g2, List.append_nil]
      | false =>
        rw [if_neg (by decide)] at hfind
        have hset := hset rfl
        (repeat' first
    | refine w_seq ?_ | refine w_rg ?_ | refine wo_nil ?_ | refine g_skU ?_ | refine g_skT ?_ | refine g_skF ?_
    | ((first | apply s_plain | apply s_void | apply s_guard | apply g_goT | apply g_goF); · simp only [go_sem, Nat.reduceEqDiff, Nat.reduceAdd, Nat.reduceLeDiff, q7, q59, hti, e1, hwl, Int.toNat_natCast, hy, List.modify_zero_cons, g2, hfind, Option.getD_none, Option.isSome_none]; (first | done | rfl))
    | ((first | apply g_T | apply g_F | apply g_gT | apply g_gF); · intro q1_; (first | intro q2_ | have q2_ := q1_); simp only [go_sem, Nat.reduceEqDiff, Nat.reduceAdd, Nat.reduceLeDiff, q7, q59, hti, e1, hwl, Int.toNat_natCast, hy, List.modify_zero_cons, g2, hfind, Option.getD_none, Option.isSome_none, q1_, q2_]; (first | done | rfl))
    | fail
    )
        (repeat' first
    | refine w_seq ?_ | refine w_rg ?_ | refine wo_nil ?_ | refine g_skU ?_ | refine g_skT ?_ | refine g_skF ?_
    | ((first | apply s_plain | apply s_void | apply s_guard | apply g_goT | apply g_goF); · simp only [go_sem, Nat.reduceEqDiff, Nat.reduceAdd, Nat.reduceLeDiff]; (first | done | rfl))
    | ((first | apply g_T | apply g_F | apply g_gT | apply g_gF); · intro q1_; (first | intro q2_ | have q2_ := q1_); simp only [go_sem, Nat.reduceEqDiff, Nat.reduceAdd, Nat.reduceLeDiff, q1_, q2_]; (first | done | rfl))
    | (apply w_condX; · simp only [go_sem, Nat.reduceEqDiff, Nat.reduceAdd, Nat.reduceLeDiff]; (first | done | rfl)); (first | refine wcd_T ?_ | refine wcd_F ?_)
    | refine w_skip ?_ | refine w_exit ?_ | refine w_ret ?_
    | fail
    )
        (repeat' first
    | refine w_seq ?_ | refine w_rg ?_ | refine wo_nil ?_ | refine g_skU ?_ | refine g_skT ?_ | refine g_skF ?_
    | ((first | apply s_plain | apply s_void | apply s_guard | apply g_goT | apply g_goF); · simp only [go_sem, Nat.reduceEqDiff, Nat.reduceAdd, Nat.reduceLeDiff, q7, g2, hset, List.modify_zero_cons]; (first | done | rfl))
    | ((first | apply g_T | apply g_F | apply g_gT | apply g_gF); · intro q1_; (first | intro q2_ | have q2_ := q1_); simp only [go_sem, Nat.reduceEqDiff, Nat.reduceAdd, Nat.reduceLeDiff, q7, g2, hset, List.modify_zero_cons, q1_, q2_]; (first | done | rfl))
    | fail
    )
        simp only [go_sem, Nat.reduceEqDiff, Nat.reduceAdd, Nat.reduceLeDiff]
    rintro fr2 σ2 g2 hfr
    try simp only [if_true]
    rw [List.take_of_length_le (Nat.le_refl _)] at g2
    have g3 : σ2.mm 4000042 0 = some (mE (seenL a w)) := g2
    have q7 := hfr 7 rfl
    have q5 := hfr 5 rfl
    simp only [go_sem, Nat.reduceEqDiff, Nat.reduceAdd, Nat.reduceLeDiff, k7, k5] at q7 q5
    clear hfr
    (repeat' first
    | refine w_seq ?_ | refine w_rg ?_ | refine wo_nil ?_ | refine g_skU ?_ | refine g_skT ?_ | refine g_skF ?_
    | ((first | apply s_plain | apply s_void | apply s_guard | apply g_goT | apply g_goF); · simp only [go_sem, Nat.reduceEqDiff, Nat.reduceAdd, Nat.reduceLeDiff, q5, hml]; (first | done | rfl))
    | ((first | apply g_T | apply g_F | apply g_gT | apply g_gF); · intro q1_; (first | intro q2_ | have q2_ := q1_); simp only [go_sem, Nat.reduceEqDiff, Nat.reduceAdd, Nat.reduceLeDiff, q5, hml, q1_, q2_]; (first | done | rfl))
    | fail
    )
    refine w_block (w_rangeF m.length (by omega) (fun i fr σ => σ.mm 4000042 0 = some (mE (seenL a w))) ⟨by decide, rfl, rfl⟩ (fun _ _ _ _ h => ⟨h, h, h⟩) (by simp only [go_sem, Nat.reduceEqDiff, Nat.reduceAdd, Nat.reduceLeDiff, g3]) (by simp only [go_sem, Nat.reduceEqDiff, Nat.reduceAdd, Nat.reduceLeDiff]; first | done | rfl) (by simp only [go_sem, Nat.reduceEqDiff, Nat.reduceAdd, Nat.reduceLeDiff, hml]; first | done | rfl) ?_ ?_)
    · rintro i fr3 σ3 hi g4 hti hfr
      have t7 := hfr 7 rfl
      have t80 := hfr 80 rfl
      simp only [go_sem, Nat.reduceEqDiff, Nat.reduceAdd, Nat.reduceLeDiff, q7, q5] at t7 t80
      have hy := labs_at (List.getElem?_eq_getElem hi)
      simp only [lab] at hy
      have e1 : (0 : Int) ≤ (i : Int) ∧ (i : Int) < (m.length : Int) := by omega
      obtain ⟨u1, u2⟩ := hget rfl (List.getElem_mem hi)
      have hfind := mfind_mE m[i].1 (seenL a w)
      rw [u1, if_pos rfl, u2] at hfind
      refine w_block ?_
      (repeat' first
    | refine w_seq ?_ | refine w_rg ?_ | refine wo_nil ?_ | refine g_skU ?_ | refine g_skT ?_ | refine g_skF ?_
    | ((first | apply s_plain | apply s_void | apply s_guard | apply g_goT | apply g_goF); · simp only [go_sem, Nat.reduceEqDiff, Nat.reduceAdd, Nat.reduceLeDiff, t7, t80, hti, e1, hml, Int.toNat_natCast, hy, List.modify_zero_cons, g4, hfind, Option.getD_some]; (first | done | rfl))
    | ((first | apply g_T | apply g_F | apply g_gT | apply g_gF); · intro q1_; (first | intro q2_ | have q2_ := q1_); simp only [go_sem, Nat.reduceEqDiff, Nat.reduceAdd, Nat.reduceLeDiff, t7, t80, hti, e1, hml, Int.toNat_natCast, hy, List.modify_zero_cons, g4, hfind, Option.getD_some, q1_, q2_]; (first | done | rfl))
    | fail
    )
      (repeat' first
    | refine w_seq ?_ | refine w_rg ?_ | refine wo_nil ?_ | refine g_skU ?_ | refine g_skT ?_ | refine g_skF ?_
    | ((first | apply s_plain | apply s_void | apply s_guard | apply g_goT | apply g_goF); · simp only [go_sem, Nat.reduceEqDiff, Nat.reduceAdd, Nat.reduceLeDiff, beq_self_eq_true, Bool.not_true]; (first | done | rfl))
    | ((first | apply g_T | apply g_F | apply g_gT | apply g_gF); · intro q1_; (first | intro q2_ | have q2_ := q1_); simp only [go_sem, Nat.reduceEqDiff, Nat.reduceAdd, Nat.reduceLeDiff, beq_self_eq_true, Bool.not_true, q1_, q2_]; (first | done | rfl))
    | (apply w_condX; · simp only [go_sem, Nat.reduceEqDiff, Nat.reduceAdd, Nat.reduceLeDiff, beq_self_eq_true, Bool.not_true]; (first | done | rfl)); (first | refine wcd_T ?_ | refine wcd_F ?_)
    | refine w_skip ?_ | refine w_exit ?_ | refine w_ret ?_
    | fail
    )
      simp only [go_sem, Nat.reduceEqDiff, Nat.reduceAdd, Nat.reduceLeDiff, g4]
    rintro fr3 σ3 g4 hfr
    try simp only [if_true]
    have t7 := hfr 7 rfl
    have t5 := hfr 5 rfl
    simp only [go_sem, Nat.reduceEqDiff, Nat.reduceAdd, Nat.reduceLeDiff, q7, q5] at t7 t5
    clear hfr
    have hlen : (mE (seenL a w)).length = m.length := by rw [mE_len]; exact hp.length_eq.symm
    have h9 : m.length ≤ 9223372036854775807 := by omega
    (repeat' first
    | refine w_seq ?_ | refine w_rg ?_ | refine wo_nil ?_ | refine g_skU ?_ | refine g_skT ?_ | refine g_skF ?_
    | ((first | apply s_plain | apply s_void | apply s_guard | apply g_goT | apply g_goF); · simp only [go_sem, Nat.reduceEqDiff, Nat.reduceAdd, Nat.reduceLeDiff, hal, t5, t7, hml, g4, hlen, h9, beq_self_eq_true, h110]; (first | done | rfl))
    | ((first | apply g_T | apply g_F | apply g_gT | apply g_gF); · intro q1_; (first | intro q2_ | have q2_ := q1_); simp only [go_sem, Nat.reduceEqDiff, Nat.reduceAdd, Nat.reduceLeDiff, hal, t5, t7, hml, g4, hlen, h9, beq_self_eq_true, h110, q1_, q2_]; (first | done | rfl))
    | (apply w_condX; · simp only [go_sem, Nat.reduceEqDiff, Nat.reduceAdd, Nat.reduceLeDiff, hal, t5, t7, hml, g4, hlen, h9, beq_self_eq_true, h110]; (first | done | rfl)); (first | refine wcd_T ?_ | refine wcd_F ?_)
    | refine w_skip ?_ | refine w_exit ?_ | refine w_ret ?_
    | fail
    )
    exact ⟨by first | exact .inr rfl | exact .inr trivial | exact .inl rfl, by simp only [go_sem, Nat.reduceEqDiff, Nat.reduceAdd, Nat.reduceLeDiff, retOf, resOf]; first | done | rfl⟩
  · obtain ⟨rfl, hc⟩ := herr he
    have hne : (e != 0) = true := by simpa using he
    rcases hc with rfl | rfl
    · (repeat' first
    | refine w_seq ?_ | refine w_rg ?_ | refine wo_nil ?_ | refine g_skU ?_ | refine g_skT ?_ | refine g_skF ?_
    | ((first | apply s_plain | apply s_void | apply s_guard | apply g_goT | apply g_goF); · simp only [go_sem, Nat.reduceEqDiff, Nat.reduceAdd, Nat.reduceLeDiff, hne, hal, hml]; (first | done | rfl))
    | ((first | apply g_T | apply g_F | apply g_gT | apply g_gF); · intro q1_; (first | intro q2_ | have q2_ := q1_); simp only [go_sem, Nat.reduceEqDiff, Nat.reduceAdd, Nat.reduceLeDiff, hne, hal, hml, q1_, q2_]; (first | done | rfl))
    | (apply w_condX; · simp only [go_sem, Nat.reduceEqDiff, Nat.reduceAdd, Nat.reduceLeDiff, hne, hal, hml]; (first | done | rfl)); (first | refine wcd_T ?_ | refine wcd_F ?_)
    | refine w_skip ?_ | refine w_exit ?_ | refine w_ret ?_
    | fail
    )
      exact ⟨by first | exact .inr rfl | exact .inr trivial | exact .inl rfl, by simp only [go_sem, Nat.reduceEqDiff, Nat.reduceAdd, Nat.reduceLeDiff, retOf, resOf]; first | done | rfl⟩
    · (repeat' first
    | refine w_seq ?_ | refine w_rg ?_ | refine wo_nil ?_ | refine g_skU ?_ | refine g_skT ?_ | refine g_skF ?_
    | ((first | apply s_plain | apply s_void | apply s_guard | apply g_goT | apply g_goF); · simp only [go_sem, Nat.reduceEqDiff, Nat.reduceAdd, Nat.reduceLeDiff, hne, hal, hml]; (first | done | rfl))
    | ((first | apply g_T | apply g_F | apply g_gT | apply g_gF); · intro q1_; (first | intro q2_ | have q2_ := q1_); simp only [go_sem, Nat.reduceEqDiff, Nat.reduceAdd, Nat.reduceLeDiff, hne, hal, hml, q1_, q2_]; (first | done | rfl))
    | (apply w_condX; · simp only [go_sem, Nat.reduceEqDiff, Nat.reduceAdd, Nat.reduceLeDiff, hne, hal, hml]; (first | done | rfl)); (first | refine wcd_T ?_ | refine wcd_F ?_)
    | refine w_skip ?_ | refine w_exit ?_ | refine w_ret ?_
    | fail
    )
      exact ⟨by first | exact .inr rfl | exact .inr trivial | exact .inl rfl, by simp only [go_sem, Nat.reduceEqDiff, Nat.reduceAdd, Nat.reduceLeDiff, retOf, resOf]; first | done | rfl⟩
end

section
variable {P : Program}
def fieldsOf (P : Program) (t : TypeId) : List (Nat × TypeId) := match P.underlying t with
  | some (.struct fs) => fs.toList.map fun f => (f.offset, f.type)
  | _ => []
theorem Is.fields {t : TypeId} {ps : List PV} (h : Is P t ps) (ha : isAgg P t = true) : ps.length = P.cellsOf t ∧ ∀ q ∈ fieldsOf P t, Is P q.2 ((ps.drop q.1).take (P.cellsOf q.2)) := by
  unfold isAgg at ha
  split at ha
  · rename_i fs hu
    obtain ⟨h1, h2⟩ := h.st' hu
    refine ⟨h1, fun q hq => ?_⟩
    simp only [fieldsOf, hu, List.mem_map] at hq
    obtain ⟨f, hf, rfl⟩ := hq
    obtain ⟨i, hi⟩ := List.getElem?_of_mem hf
    exact h2 i f (by simpa using hi)
  · cases ha
theorem str_of {t : TypeId} {p : PV} (h : Is P t [p]) (hk : (match P.underlying t with | some .string => true | _ => false) = true) : ∃ s : ByteArray, p = .sc (.string s) ∧ s.size ≤ reachBytes := by
  split at hk
  · rename_i hu
    obtain ⟨s, hs, h2⟩ := h.str' hu
    simp only [List.cons.injEq, and_true] at hs
    exact ⟨s, hs, h2⟩
  · cases hk
end

end Go.Proofs.YtckcgppnppiccaaDoorPv
