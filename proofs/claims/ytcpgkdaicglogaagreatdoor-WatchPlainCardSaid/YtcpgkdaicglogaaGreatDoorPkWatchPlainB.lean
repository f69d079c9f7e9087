/-
Own texts of the proof, merged: part 2.
-/
import Derived.Test.YtcpgkdaicglogaaGreatDoorPkWatchPlainA
import Derived.WideAt
import Derived.Test.YtcpgkdaicglogaaGreatDoorPvPc
import Derived.Test.YtcpgkdaicglogaaGreatDoorPvU
import Derived.Lib.CutLaws
import Derived.Lib.IndexLaws
import Derived.Test.YtcpgkdaicglogaaGreatDoorPvL
import Derived.HandedShaped
namespace Go.Proofs.YtcpgkdaicglogaaGreatDoorPv
open Go
set_option linter.unusedSimpArgs false
set_option linter.unusedVariables false
set_option maxHeartbeats 4000000
set_option maxRecDepth 8000
section
attribute [local go_sem ↓] e_mv e_pick e_bin e_eqs e_beq e_un e_cvi e_str e_s2b e_b2s e_box e_build e_bsl e_ld e_st e_nck e_mkf e_slcS e_slcL e_fa e_fld e_ia e_iaa e_ix e_ixa e_ext e_lenS e_lenL e_mnmx e_app e_appb e_bbx e_msl e_clr e_call e_callv e_icall e_slcA e_mkm e_mput e_mget e_mlen e_mdel pa_t pa_c pa_f slcSP_str hiOf_some hiOf_none loOf_some loOf_none set_eq set_ne
attribute [local go_sem] pv pv1 simple frOf_0 frOf_1 frOf_2 frOf_3 frOf_4 frOf_5 ne_eq not_false_eq_true if_true Bool.false_eq_true if_false pbin punary Option.map_some Option.bind_some pick_and pick_or opt_true Bool.true_and Bool.and_self Bool.and_true Bool.true_or Bool.false_or Bool.not_true Bool.not_false callE pcall_eq List.map_cons List.map_nil List.append_nil List.nil_append List.cons_append mapM_cons' mapM_nil' dep_eq fz_sc fz_sl fz_em fz_fn fz_fp fz_agg fz_tu fz_bx fz_ob Nat.lt_irrefl Nat.zero_lt_one Nat.lt_add_one flat clL cl Bool.or_true okc_sc okc_em okc_sl okc_ob okc_bx okc_fp okc_fn okc_agg okc_ifc cells_agg cells_sc cells_sl cells_em cells_ob cells_fn cells_bx cells_fp List.length_cons List.length_nil Nat.zero_add and_self true_and and_true new_m new_c put_m put_c nil_m nil_c nil_mm new_mm put_mm newM_m newM_c newM_mm putM_m putM_c putM_mm mkeyV_1 mkeyV_2 mapAt_eq deref List.getElem?_cons_zero List.getElem?_cons_succ List.drop_zero List.drop_succ_cons List.take_succ_cons List.take_zero Nat.le_refl false_and and_false decide_true decide_false lenP_em lenP_nil lenP_sl lenP_ob Int.ofNat_zero
def d116 : Def := (.code 2 [.tmp 4, .tmp 5] (.seq (.rg false [⟨.some 4, .none, .mv (.c (.slice .none 0 0))⟩, ⟨.some 5, .none, .mv (.c (.int .i64 0))⟩]) (.seq (.seq (.rg false [⟨.some 9, .none, .mv (.t 0)⟩, ⟨.some 10, .none, .call 113 .pure [.t 9]⟩, ⟨.some 11, .none, .un .not (.t 10)⟩, ⟨.some 12, .none, .mv (.t 11)⟩, ⟨.some 13, .some (12, false), .mv (.t 1)⟩, ⟨.some 14, .some (12, false), .call 113 .pure [.t 13]⟩, ⟨.some 15, .some (12, false), .un .not (.t 14)⟩, ⟨.some 16, .none, .pick (.t 12) (.c (.bool true)) (.t 15)⟩]) (.cond (.t 16) (.seq (.rg false [⟨.some 4, .none, .mv (.c (.slice .none 0 0))⟩, ⟨.some 5, .none, .mv (.c (.int .i64 1))⟩]) .ret) .skip)) (.seq (.rg false [⟨.some 17, .none, .mv (.t 1)⟩, ⟨.some 18, .none, .call 128 .opn [.t 17]⟩, ⟨.some 6, .none, .mv (.t 18)⟩]) (.seq (.seq (.rg false [⟨.some 19, .none, .mv (.t 0)⟩, ⟨.some 20, .none, .lenL (.t 19)⟩, ⟨.some 21, .none, .mv (.c (.int .i64 0))⟩]) (.block 0 (.loop (.seq (.rg false [⟨.some 22, .none, .bin .lss (.t 21) (.t 20)⟩]) (.seq (.cond (.t 22) .skip (.exit 0)) (.seq (.block 1 (.seq (.rg false [⟨.some 23, .none, .ia 2 (.t 19) (.t 21)⟩, ⟨.some 24, .none, .ld (.some 2) (.t 23)⟩, ⟨.some 8, .none, .box (.c (.agg #[.string ⟨#[]⟩, .string ⟨#[]⟩]))⟩, ⟨.none, .none, .st 2 (.t 8) (.t 24)⟩]) (.seq (.rg false [⟨.some 25, .none, .mv (.t 1)⟩, ⟨.some 26, .none, .fa 0 (.t 8)⟩, ⟨.some 27, .none, .ld .none (.t 26)⟩, ⟨.some 28, .none, .call 114 .pure [.t 25, .t 27]⟩, ⟨.some 29, .none, .bin .eql (.t 28) (.c (.string ⟨#[]⟩))⟩]) (.cond (.t 29) (.rg false [⟨.some 30, .none, .mv (.t 6)⟩, ⟨.some 31, .none, .ld (.some 2) (.t 8)⟩, ⟨.some 32, .none, .bsl 2 (.agg #[.string ⟨#[]⟩, .string ⟨#[]⟩]) 1 [(0, .t 31)]⟩, ⟨.some 33, .none, .app 2 32 false (.t 30) (.t 32)⟩, ⟨.some 6, .none, .mv (.t 33)⟩]) .skip)))) (.rg false [⟨.some 34, .none, .bin .add (.t 21) (.c (.int .i64 1))⟩, ⟨.some 21, .none, .mv (.t 34)⟩]))))))) (.seq (.rg false [⟨.some 35, .none, .mv (.t 6)⟩, ⟨.some 36, .none, .call 129 .pure [.t 35]⟩, ⟨.some 37, .none, .ext (.t 36) 0⟩, ⟨.some 38, .none, .ext (.t 36) 1⟩, ⟨.some 4, .none, .mv (.t 37)⟩, ⟨.some 5, .none, .mv (.t 38)⟩]) .ret))))))
def d109 : Def := (.code 2 [.tmp 4, .tmp 5] (.seq (.rg false [⟨.some 2, .none, .box (.t 0)⟩, ⟨.some 4, .none, .mv (.c (.slice .none 0 0))⟩, ⟨.some 5, .none, .mv (.c (.int .i64 0))⟩]) (.seq (.seq (.rg false [⟨.some 8, .none, .ld (.some 8) (.t 2)⟩, ⟨.some 9, .none, .call 105 .pure [.t 8]⟩, ⟨.some 10, .none, .un .not (.t 9)⟩]) (.cond (.t 10) (.seq (.rg false [⟨.some 4, .none, .mv (.c (.slice .none 0 0))⟩, ⟨.some 5, .none, .mv (.c (.int .i64 1))⟩]) .ret) .skip)) (.seq (.rg false [⟨.some 12, .none, .mv (.t 1)⟩, ⟨.some 13, .none, .fa 7 (.t 2)⟩, ⟨.some 14, .none, .ld .none (.t 13)⟩, ⟨.some 15, .none, .call 116 .pure [.t 12, .t 14]⟩, ⟨.some 11, .none, .mv (.t 15)⟩, ⟨.some 16, .none, .ext (.t 11) 0⟩, ⟨.some 17, .none, .ext (.t 11) 1⟩, ⟨.some 6, .none, .mv (.t 16)⟩, ⟨.some 7, .none, .mv (.t 17)⟩]) (.seq (.seq (.rg false [⟨.some 18, .none, .mv (.t 7)⟩, ⟨.some 19, .none, .bin .neq (.t 18) (.c (.int .i64 0))⟩]) (.cond (.t 19) (.seq (.rg false [⟨.some 20, .none, .mv (.t 7)⟩, ⟨.some 4, .none, .mv (.c (.slice .none 0 0))⟩, ⟨.some 5, .none, .mv (.t 20)⟩]) .ret) .skip)) (.seq (.rg false [⟨.some 21, .none, .mv (.t 6)⟩, ⟨.some 22, .none, .fa 0 (.t 2)⟩, ⟨.some 23, .none, .ld .none (.t 22)⟩, ⟨.some 24, .none, .build (.agg #[.string ⟨#[]⟩, .string ⟨#[]⟩]) [(0, (1, .c (.string ⟨#[97, 108, 101, 114, 116]⟩))), (1, (1, .t 23))]⟩, ⟨.some 25, .none, .bsl 2 (.agg #[.string ⟨#[]⟩, .string ⟨#[]⟩]) 1 [(0, .t 24)]⟩, ⟨.some 26, .none, .call 116 .pure [.t 21, .t 25]⟩, ⟨.some 27, .none, .ext (.t 26) 0⟩, ⟨.some 28, .none, .ext (.t 26) 1⟩, ⟨.some 4, .none, .mv (.t 27)⟩, ⟨.some 5, .none, .mv (.t 28)⟩]) .ret))))))
def lq : List (Nat × Def) := [(116, d116), (109, d109), (128, .prim (cloneF 2 32))]
def lq0 : List (Nat × Def) := [(116, d116), (128, .prim (cloneF 2 32))]
theorem lq_lq0 {env : Nat → Option Def} (H : Has lq env) : Has lq0 env := fun p hp => H p (by
  simp only [lq0, List.mem_cons, List.not_mem_nil, or_false] at hp
  rcases hp with rfl | rfl <;> simp [lq])
section
variable {env : Nat → Option Def} {fr : Fr} {σ : St} {K : Fr → St → Prop} {Q : X → Fr → St → Prop}
theorem a128 (V : Has lq0 env) {l : List Lab} (hn : l.length ≤ 1000000) : ∃ r σ', EV env 128 [.sl (labs l)] σ = some (r, σ') ∧ Gat σ' [7] 2 true r (labs l) := by
  have h := V (128, .prim (cloneF 2 32)) (by simp [lq0])
  have hall : ((labs l).all fun y => okc y && (cellsOf y).length == 2) = true := by
    rw [List.all_eq_true]
    intro x hx
    simp only [labs, List.mem_map] at hx
    obtain ⟨m, _, rfl⟩ := hx
    rfl
  have hb : decide ((labs l).length * 32 ≤ 70368744177664) = true := decide_eq_true (by rw [labs_len]; omega)
  cases hl : labs l with
  | nil =>
    exact ⟨.em, σ, EV_of (n := 1) (by simp only [evF, h]; rfl), .em⟩
  | cons x r =>
    refine ⟨.ob 7 (σ.c 7) 2 0 (labs l).length, σ.new 7 ⟨2, labs l, true, true⟩, EV_of (n := 1) ?_, .inr ⟨7, σ.c 7, true, by simp, by rw [hl], by rw [← hl]; simp [new_m], by simp [new_c], by simp, fun _ => rfl⟩⟩
    rw [← hl]
    have he : (labs l).isEmpty = false := by rw [hl]; rfl
    simp only [evF, h, cloneF, hall, hb, he, Bool.and_self, if_true, Bool.false_eq_true, if_false]
theorem right_len {l : List Lab} (h : rightL l = true) : l.length ≤ 8 := by
  unfold rightL at h
  simp only [Bool.and_eq_true, decide_eq_true_eq] at h
  omega
theorem right_smalls {l : List Lab} (h : rightL l = true) : Smalls l := by
  intro m hm
  obtain ⟨i, hi⟩ := List.getElem?_of_mem hm
  have hlt := (List.getElem?_eq_some_iff.1 hi).1
  have hmay := rightL_may h hlt
  have hn : nth l i = m := by unfold nth; rw [hi]; rfl
  rw [hn] at hmay
  unfold mayB nameB valueB at hmay
  simp only [Bool.and_eq_true, decide_eq_true_eq] at hmay
  unfold Small
  omega
def missB (over : List Lab) (m : Lab) : Bool := (getB over m.1).toList == (⟨#[]⟩ : ByteArray).toList
def overL (l over : List Lab) : List Lab := over ++ l.filter (missB over)
def withL (l over : List Lab) : List Lab × Int := if !rightL l || !rightL over then ([], 1) else newL (overL l over)
theorem overL_smalls {l over : List Lab} (h1 : Smalls l) (h2 : Smalls over) : Smalls (overL l over) := by
  intro m hm
  simp only [overL, List.mem_append, List.mem_filter] at hm
  rcases hm with hm | hm
  · exact h2 m hm
  · exact h1 m hm.1
theorem overL_len (l over : List Lab) : (overL l over).length ≤ over.length + l.length := by
  simp only [overL, List.length_append]
  have := List.length_filter_le (missB over) l
  omega
theorem a116 (H : Has la0 env) (G : Has lc env) (O : Has lo env) (P : Has lp env) (V : Has lq0 env) (B : Bits env) {l over : List Lab} (hn : l.length ≤ 9223372036854775807) (hl : Smalls l) (hn' : over.length ≤ 9223372036854775807) (hl' : Smalls over) :
    AV env 116 [.sl (labs l), .sl (labs over)] = some (.tu [.sl (labs (withL l over).1), .sc (.int .i64 (withL l over).2)]) := by
  have hll := labs_len l
  have h1 := a113 H G hn hl
  have h2 := a113 H G hn' hl'
  refine AV_wp (V (116, d116) (by simp [lq0])) rfl ?_
  (repeat' first
    | refine w_seq ?_ | refine w_rg ?_ | refine wo_nil ?_ | refine g_skU ?_ | refine g_skT ?_ | refine g_skF ?_
    | ((first | apply s_plain | apply s_void | apply s_guard | apply g_goT | apply g_goF); · simp only [go_sem, Nat.reduceEqDiff, Nat.reduceAdd, Nat.reduceLeDiff, h1, h2]; (first | done | rfl))
    | ((first | apply g_T | apply g_F | apply g_gT | apply g_gF); · intro q1_; (first | intro q2_ | have q2_ := q1_); simp only [go_sem, Nat.reduceEqDiff, Nat.reduceAdd, Nat.reduceLeDiff, h1, h2, q1_, q2_]; (first | done | rfl))
    | fail
    )
  cases hb : (!rightL l || !rightL over) with
  | true =>
    (repeat' first
    | refine w_seq ?_ | refine w_rg ?_ | refine wo_nil ?_ | refine g_skU ?_ | refine g_skT ?_ | refine g_skF ?_
    | ((first | apply s_plain | apply s_void | apply s_guard | apply g_goT | apply g_goF); · simp only [go_sem, Nat.reduceEqDiff, Nat.reduceAdd, Nat.reduceLeDiff]; (first | done | rfl))
    | ((first | apply g_T | apply g_F | apply g_gT | apply g_gF); · intro q1_; (first | intro q2_ | have q2_ := q1_); simp only [go_sem, Nat.reduceEqDiff, Nat.reduceAdd, Nat.reduceLeDiff, q1_, q2_]; (first | done | rfl))
    | (apply w_condX; · simp only [go_sem, Nat.reduceEqDiff, Nat.reduceAdd, Nat.reduceLeDiff]; (first | done | rfl)); (first | refine wcd_T ?_ | refine wcd_F ?_)
    | refine w_skip ?_ | refine w_exit ?_ | refine w_ret ?_
    | fail
    )
    exact ⟨.inr rfl, by simp only [go_sem, Nat.reduceEqDiff, Nat.reduceAdd, Nat.reduceLeDiff, retOf, resOf]; simp only [withL, hb, if_true]; rfl⟩
  | false =>
    have hb' := hb
    simp only [Bool.or_eq_false_iff, Bool.not_eq_false'] at hb'
    have k1 := right_len hb'.1
    have k2 := right_len hb'.2
    obtain ⟨r, σ1, h128, hg⟩ := a128 (σ := St.nil) V (l := over) (by omega)
    (repeat' first
    | refine w_seq ?_ | refine w_rg ?_ | refine wo_nil ?_ | refine g_skU ?_ | refine g_skT ?_ | refine g_skF ?_
    | ((first | apply s_plain | apply s_void | apply s_guard | apply g_goT | apply g_goF); · simp only [go_sem, Nat.reduceEqDiff, Nat.reduceAdd, Nat.reduceLeDiff, h128]; (first | done | rfl))
    | ((first | apply g_T | apply g_F | apply g_gT | apply g_gF); · intro q1_; (first | intro q2_ | have q2_ := q1_); simp only [go_sem, Nat.reduceEqDiff, Nat.reduceAdd, Nat.reduceLeDiff, h128, q1_, q2_]; (first | done | rfl))
    | (apply w_condX; · simp only [go_sem, Nat.reduceEqDiff, Nat.reduceAdd, Nat.reduceLeDiff, h128]; (first | done | rfl)); (first | refine wcd_T ?_ | refine wcd_F ?_)
    | refine w_skip ?_ | refine w_exit ?_ | refine w_ret ?_
    | fail
    )
    (repeat' first
    | refine w_seq ?_ | refine w_rg ?_ | refine wo_nil ?_ | refine g_skU ?_ | refine g_skT ?_ | refine g_skF ?_
    | ((first | apply s_plain | apply s_void | apply s_guard | apply g_goT | apply g_goF); · simp only [go_sem, Nat.reduceEqDiff, Nat.reduceAdd, Nat.reduceLeDiff, hll]; (first | done | rfl))
    | ((first | apply g_T | apply g_F | apply g_gT | apply g_gF); · intro q1_; (first | intro q2_ | have q2_ := q1_); simp only [go_sem, Nat.reduceEqDiff, Nat.reduceAdd, Nat.reduceLeDiff, hll, q1_, q2_]; (first | done | rfl))
    | fail
    )
    refine w_block (w_range l.length hn (fun i fr σ => fr 1 = .sl (labs over) ∧ fr 19 = .sl (labs l) ∧ Gat σ [7, 33] 2 false (fr 6) (labs (overL (l.take i) over))) (by decide) ?_ ?_ ?_ _ _ ?_ ?_ ?_)
    · rintro i fr σ v ⟨h0, h1, h2⟩
      refine ⟨⟨?_, ?_, ?_⟩, ⟨?_, ?_, ?_⟩, ⟨?_, ?_, ?_⟩⟩ <;> simp only [go_sem, Nat.reduceEqDiff, Nat.reduceAdd, Nat.reduceLeDiff, h0, h1, h2]
    · rintro i fr σ hi ⟨f1, f19, hg⟩ hti htn
      have hy := labs_at (List.getElem?_eq_getElem hi)
      have e1 : (0 : Int) ≤ (i : Int) ∧ (i : Int) < (l.length : Int) := by omega
      have h114 := a114 G (l := over) (n := l[i].1) hn'
      refine w_block ?_
      simp only [lab] at hy
      (repeat' first
    | refine w_seq ?_ | refine w_rg ?_ | refine wo_nil ?_ | refine g_skU ?_ | refine g_skT ?_ | refine g_skF ?_
    | ((first | apply s_plain | apply s_void | apply s_guard | apply g_goT | apply g_goF); · simp only [go_sem, Nat.reduceEqDiff, Nat.reduceAdd, Nat.reduceLeDiff, f1, f19, hti, e1, hll, Int.toNat_natCast, hy, List.modify_zero_cons, h114]; (first | done | rfl))
    | ((first | apply g_T | apply g_F | apply g_gT | apply g_gF); · intro q1_; (first | intro q2_ | have q2_ := q1_); simp only [go_sem, Nat.reduceEqDiff, Nat.reduceAdd, Nat.reduceLeDiff, f1, f19, hti, e1, hll, Int.toNat_natCast, hy, List.modify_zero_cons, h114, q1_, q2_]; (first | done | rfl))
    | fail
    )
      have hmi : missB over l[i] = ((getB over l[i].1).toList == (⟨#[]⟩ : ByteArray).toList) := rfl
      have htake : l.take (i + 1) = l.take i ++ [l[i]] := List.take_succ_eq_append_getElem hi
      have hov : labs (overL (l.take (i + 1)) over) = labs (overL (l.take i) over) ++ (if missB over l[i] = true then [.agg [.sc (.string l[i].1), .sc (.string l[i].2)]] else []) := by
        rw [htake]
        unfold overL
        rw [List.filter_append]
        cases hm : missB over l[i] <;> simp [labs, hm, lab]
      cases hb : missB over l[i] with
      | true =>
        rw [hb, if_pos rfl] at hov
        rw [hmi] at hb
        refine w_condT (by simp only [go_sem, Nat.reduceEqDiff, Nat.reduceAdd, Nat.reduceLeDiff, hb]) ?_
        (repeat' first
    | refine w_seq ?_ | refine w_rg ?_ | refine wo_nil ?_ | refine g_skU ?_ | refine g_skT ?_ | refine g_skF ?_
    | ((first | apply s_plain | apply s_void | apply s_guard | apply g_goT | apply g_goF); · simp only [go_sem, Nat.reduceEqDiff, Nat.reduceAdd, Nat.reduceLeDiff, List.drop_zero, fillE, List.replicate_succ, List.replicate_zero, List.set_cons_zero]; (first | done | rfl))
    | ((first | apply g_T | apply g_F | apply g_gT | apply g_gF); · intro q1_; (first | intro q2_ | have q2_ := q1_); simp only [go_sem, Nat.reduceEqDiff, Nat.reduceAdd, Nat.reduceLeDiff, List.drop_zero, fillE, List.replicate_succ, List.replicate_zero, List.set_cons_zero, q1_, q2_]; (first | done | rfl))
    | fail
    )
        have hlen : (labs (overL (l.take i) over)).length ≤ 16 := by
          have := overL_len (l.take i) over
          rw [List.length_take] at this
          rw [labs_len]; omega
        refine s_gat (os := [7, 33]) (w := false) (xs := labs (overL (l.take i) over)) (e := .agg [.sc (.string l[i].1), .sc (.string l[i].2)]) (by simp only [go_sem, Nat.reduceEqDiff, Nat.reduceAdd, Nat.reduceLeDiff]; exact ((hg.new _).put (d := 2000008) (by decide) _).new _) (by decide) (by simp only [go_sem, Nat.reduceEqDiff, Nat.reduceAdd, Nat.reduceLeDiff, srcOf, elemsOf, List.drop_zero]) rfl rfl (by omega) ?_
        intro p σ' hg2
        simp only [Bool.false_and] at hg2
        rw [← hov] at hg2
        (repeat' first
    | refine w_seq ?_ | refine w_rg ?_ | refine wo_nil ?_ | refine g_skU ?_ | refine g_skT ?_ | refine g_skF ?_
    | ((first | apply s_plain | apply s_void | apply s_guard | apply g_goT | apply g_goF); · simp only [go_sem, Nat.reduceEqDiff, Nat.reduceAdd, Nat.reduceLeDiff]; (first | done | rfl))
    | ((first | apply g_T | apply g_F | apply g_gT | apply g_gF); · intro q1_; (first | intro q2_ | have q2_ := q1_); simp only [go_sem, Nat.reduceEqDiff, Nat.reduceAdd, Nat.reduceLeDiff, q1_, q2_]; (first | done | rfl))
    | (apply w_condX; · simp only [go_sem, Nat.reduceEqDiff, Nat.reduceAdd, Nat.reduceLeDiff]; (first | done | rfl)); (first | refine wcd_T ?_ | refine wcd_F ?_)
    | refine w_skip ?_ | refine w_exit ?_ | refine w_ret ?_
    | fail
    )
        refine ⟨⟨?_, ?_, ?_⟩, ?_, ?_⟩
        · simp only [go_sem, Nat.reduceEqDiff, Nat.reduceAdd, Nat.reduceLeDiff, f1]
        · simp only [go_sem, Nat.reduceEqDiff, Nat.reduceAdd, Nat.reduceLeDiff, f19]
        · simp only [go_sem, Nat.reduceEqDiff, Nat.reduceAdd, Nat.reduceLeDiff]; exact hg2
        · simp only [go_sem, Nat.reduceEqDiff, Nat.reduceAdd, Nat.reduceLeDiff, hti]
        · simp only [go_sem, Nat.reduceEqDiff, Nat.reduceAdd, Nat.reduceLeDiff, htn]
      | false =>
        rw [hb, if_neg (by decide), List.append_nil] at hov
        rw [hmi] at hb
        refine w_condF (by simp only [go_sem, Nat.reduceEqDiff, Nat.reduceAdd, Nat.reduceLeDiff, hb]) ?_
        (repeat' first
    | refine w_seq ?_ | refine w_rg ?_ | refine wo_nil ?_ | refine g_skU ?_ | refine g_skT ?_ | refine g_skF ?_
    | ((first | apply s_plain | apply s_void | apply s_guard | apply g_goT | apply g_goF); · simp only [go_sem, Nat.reduceEqDiff, Nat.reduceAdd, Nat.reduceLeDiff]; (first | done | rfl))
    | ((first | apply g_T | apply g_F | apply g_gT | apply g_gF); · intro q1_; (first | intro q2_ | have q2_ := q1_); simp only [go_sem, Nat.reduceEqDiff, Nat.reduceAdd, Nat.reduceLeDiff, q1_, q2_]; (first | done | rfl))
    | (apply w_condX; · simp only [go_sem, Nat.reduceEqDiff, Nat.reduceAdd, Nat.reduceLeDiff]; (first | done | rfl)); (first | refine wcd_T ?_ | refine wcd_F ?_)
    | refine w_skip ?_ | refine w_exit ?_ | refine w_ret ?_
    | fail
    )
        refine ⟨⟨?_, ?_, ?_⟩, ?_, ?_⟩
        · simp only [go_sem, Nat.reduceEqDiff, Nat.reduceAdd, Nat.reduceLeDiff, f1]
        · simp only [go_sem, Nat.reduceEqDiff, Nat.reduceAdd, Nat.reduceLeDiff, f19]
        · simp only [go_sem, Nat.reduceEqDiff, Nat.reduceAdd, Nat.reduceLeDiff]; rw [hov]; exact (hg.new _).put (d := 2000008) (by decide) _
        · simp only [go_sem, Nat.reduceEqDiff, Nat.reduceAdd, Nat.reduceLeDiff, hti]
        · simp only [go_sem, Nat.reduceEqDiff, Nat.reduceAdd, Nat.reduceLeDiff, htn]
    · rintro fr σ ⟨f1, f19, hg⟩
      try simp only [if_true]
      rw [List.take_of_length_le (Nat.le_refl _)] at hg
      have hfz := hg.fz (labs_fz σ _)
      have h129 := a129 H G O P B (l := overL l over) (by have := overL_len l over; omega) (overL_smalls hl hl')
      (repeat' first
    | refine w_seq ?_ | refine w_rg ?_ | refine wo_nil ?_ | refine g_skU ?_ | refine g_skT ?_ | refine g_skF ?_
    | ((first | apply s_plain | apply s_void | apply s_guard | apply g_goT | apply g_goF); · simp only [go_sem, Nat.reduceEqDiff, Nat.reduceAdd, Nat.reduceLeDiff]; (first | done | rfl))
    | ((first | apply g_T | apply g_F | apply g_gT | apply g_gF); · intro q1_; (first | intro q2_ | have q2_ := q1_); simp only [go_sem, Nat.reduceEqDiff, Nat.reduceAdd, Nat.reduceLeDiff, q1_, q2_]; (first | done | rfl))
    | fail
    )
      refine s_call (as := [.sl (labs (overL l over))]) (by simp only [go_sem, Nat.reduceEqDiff, Nat.reduceAdd, Nat.reduceLeDiff, hfz]) h129 ?_
      intro σ'
      (repeat' first
    | refine w_seq ?_ | refine w_rg ?_ | refine wo_nil ?_ | refine g_skU ?_ | refine g_skT ?_ | refine g_skF ?_
    | ((first | apply s_plain | apply s_void | apply s_guard | apply g_goT | apply g_goF); · simp only [go_sem, Nat.reduceEqDiff, Nat.reduceAdd, Nat.reduceLeDiff]; (first | done | rfl))
    | ((first | apply g_T | apply g_F | apply g_gT | apply g_gF); · intro q1_; (first | intro q2_ | have q2_ := q1_); simp only [go_sem, Nat.reduceEqDiff, Nat.reduceAdd, Nat.reduceLeDiff, q1_, q2_]; (first | done | rfl))
    | (apply w_condX; · simp only [go_sem, Nat.reduceEqDiff, Nat.reduceAdd, Nat.reduceLeDiff]; (first | done | rfl)); (first | refine wcd_T ?_ | refine wcd_F ?_)
    | refine w_skip ?_ | refine w_exit ?_ | refine w_ret ?_
    | fail
    )
      exact ⟨.inr rfl, by simp only [go_sem, Nat.reduceEqDiff, Nat.reduceAdd, Nat.reduceLeDiff, retOf, resOf]; simp only [withL, hb, Bool.false_eq_true, if_false]; first | done | rfl⟩
    · refine ⟨?_, ?_, ?_⟩
      · simp only [go_sem, Nat.reduceEqDiff, Nat.reduceAdd, Nat.reduceLeDiff]
      · simp only [go_sem, Nat.reduceEqDiff, Nat.reduceAdd, Nat.reduceLeDiff]
      · simp only [go_sem, Nat.reduceEqDiff, Nat.reduceAdd, Nat.reduceLeDiff]
        have h0 : overL [] over = over := by simp [overL]
        rw [h0]
        exact hg.mono (by intro o ho; simp at ho ⊢; omega)
    · simp only [go_sem, Nat.reduceEqDiff, Nat.reduceAdd, Nat.reduceLeDiff]
    · simp only [go_sem, Nat.reduceEqDiff, Nat.reduceAdd, Nat.reduceLeDiff, hll]
theorem newL_ok {l : List Lab} (h : (newL l).2 = 0) : rightL (newL l).1 = true := by
  unfold newL at h ⊢
  split at h
  · cases h
  · split at h
    · cases h
    · split at h
      · rename_i h1 h2 h3
        rw [if_neg h1, if_neg h2, if_pos h3]; exact h3
      · cases h
theorem withL_ok {l over : List Lab} (h : (withL l over).2 = 0) : rightL (withL l over).1 = true := by
  unfold withL at h ⊢
  split at h
  · cases h
  · rename_i h1
    rw [if_neg h1]
    exact newL_ok h
def labelsR (r : Rule) (l : List Lab) : List Lab × Int := if !rightR r then ([], 1) else if (withL l r.labels).2 != 0 then ([], (withL l r.labels).2) else withL (withL l r.labels).1 [(alertT, r.name)]
theorem a109 (H : Has la env) (G : Has lc env) (F : Has lf env) (I : Has lg env) (O : Has lo env) (P : Has lp env) (V : Has lq env) (B : Bits env) {r : Rule} {l : List Lab} (hr : r.Fits) (hn : l.length ≤ 9223372036854775807) (hl : Smalls l) :
    AV env 109 [rule r, .sl (labs l)] = some (.tu [.sl (labs (labelsR r l).1), .sc (.int .i64 (labelsR r l).2)]) := by
  have h105 := a105 H G F I hr
  have h116 := a116 (la_la0 H) G O P (lq_lq0 V) B hn hl hr.l hr.s
  refine AV_wp (V (109, d109) (by simp [lq])) rfl ?_
  unfold rule at h105 ⊢
  (repeat' first
    | refine w_seq ?_ | refine w_rg ?_ | refine wo_nil ?_ | refine g_skU ?_ | refine g_skT ?_ | refine g_skF ?_
    | ((first | apply s_plain | apply s_void | apply s_guard | apply g_goT | apply g_goF); · simp only [go_sem, Nat.reduceEqDiff, Nat.reduceAdd, Nat.reduceLeDiff, h105, List.drop_zero]; (first | done | rfl))
    | ((first | apply g_T | apply g_F | apply g_gT | apply g_gF); · intro q1_; (first | intro q2_ | have q2_ := q1_); simp only [go_sem, Nat.reduceEqDiff, Nat.reduceAdd, Nat.reduceLeDiff, h105, List.drop_zero, q1_, q2_]; (first | done | rfl))
    | fail
    )
  cases hb : rightR r with
  | false =>
    (repeat' first
    | refine w_seq ?_ | refine w_rg ?_ | refine wo_nil ?_ | refine g_skU ?_ | refine g_skT ?_ | refine g_skF ?_
    | ((first | apply s_plain | apply s_void | apply s_guard | apply g_goT | apply g_goF); · simp only [go_sem, Nat.reduceEqDiff, Nat.reduceAdd, Nat.reduceLeDiff]; (first | done | rfl))
    | ((first | apply g_T | apply g_F | apply g_gT | apply g_gF); · intro q1_; (first | intro q2_ | have q2_ := q1_); simp only [go_sem, Nat.reduceEqDiff, Nat.reduceAdd, Nat.reduceLeDiff, q1_, q2_]; (first | done | rfl))
    | (apply w_condX; · simp only [go_sem, Nat.reduceEqDiff, Nat.reduceAdd, Nat.reduceLeDiff]; (first | done | rfl)); (first | refine wcd_T ?_ | refine wcd_F ?_)
    | refine w_skip ?_ | refine w_exit ?_ | refine w_ret ?_
    | fail
    )
    exact ⟨.inr rfl, by simp only [go_sem, Nat.reduceEqDiff, Nat.reduceAdd, Nat.reduceLeDiff, retOf, resOf]; simp only [labelsR, hb]; rfl⟩
  | true =>
    (repeat' first
    | refine w_seq ?_ | refine w_rg ?_ | refine wo_nil ?_ | refine g_skU ?_ | refine g_skT ?_ | refine g_skF ?_
    | ((first | apply s_plain | apply s_void | apply s_guard | apply g_goT | apply g_goF); · simp only [go_sem, Nat.reduceEqDiff, Nat.reduceAdd, Nat.reduceLeDiff]; (first | done | rfl))
    | ((first | apply g_T | apply g_F | apply g_gT | apply g_gF); · intro q1_; (first | intro q2_ | have q2_ := q1_); simp only [go_sem, Nat.reduceEqDiff, Nat.reduceAdd, Nat.reduceLeDiff, q1_, q2_]; (first | done | rfl))
    | (apply w_condX; · simp only [go_sem, Nat.reduceEqDiff, Nat.reduceAdd, Nat.reduceLeDiff]; (first | done | rfl)); (first | refine wcd_T ?_ | refine wcd_F ?_)
    | refine w_skip ?_ | refine w_exit ?_ | refine w_ret ?_
    | fail
    )
    (repeat' first
    | refine w_seq ?_ | refine w_rg ?_ | refine wo_nil ?_ | refine g_skU ?_ | refine g_skT ?_ | refine g_skF ?_
    | ((first | apply s_plain | apply s_void | apply s_guard | apply g_goT | apply g_goF); · simp only [go_sem, Nat.reduceEqDiff, Nat.reduceAdd, Nat.reduceLeDiff, h116]; (first | done | rfl))
    | ((first | apply g_T | apply g_F | apply g_gT | apply g_gF); · intro q1_; (first | intro q2_ | have q2_ := q1_); simp only [go_sem, Nat.reduceEqDiff, Nat.reduceAdd, Nat.reduceLeDiff, h116, q1_, q2_]; (first | done | rfl))
    | fail
    )
    cases hq : ((withL l r.labels).2 != 0) with
    | true =>
      (repeat' first
    | refine w_seq ?_ | refine w_rg ?_ | refine wo_nil ?_ | refine g_skU ?_ | refine g_skT ?_ | refine g_skF ?_
    | ((first | apply s_plain | apply s_void | apply s_guard | apply g_goT | apply g_goF); · simp only [go_sem, Nat.reduceEqDiff, Nat.reduceAdd, Nat.reduceLeDiff]; (first | done | rfl))
    | ((first | apply g_T | apply g_F | apply g_gT | apply g_gF); · intro q1_; (first | intro q2_ | have q2_ := q1_); simp only [go_sem, Nat.reduceEqDiff, Nat.reduceAdd, Nat.reduceLeDiff, q1_, q2_]; (first | done | rfl))
    | (apply w_condX; · simp only [go_sem, Nat.reduceEqDiff, Nat.reduceAdd, Nat.reduceLeDiff]; (first | done | rfl)); (first | refine wcd_T ?_ | refine wcd_F ?_)
    | refine w_skip ?_ | refine w_exit ?_ | refine w_ret ?_
    | fail
    )
      exact ⟨.inr rfl, by simp only [go_sem, Nat.reduceEqDiff, Nat.reduceAdd, Nat.reduceLeDiff, retOf, resOf]; simp only [labelsR, hb, hq]; rfl⟩
    | false =>
      have hz : (withL l r.labels).2 = 0 := by simpa using hq
      have hok := withL_ok hz
      have hsm : Smalls [(alertT, r.name)] := by
        intro m hm
        simp at hm
        subst hm
        exact ⟨show Small alertT by unfold Small; decide, hr.n⟩
      have h116' := a116 (la_la0 H) G O P (lq_lq0 V) B (l := (withL l r.labels).1) (over := [(alertT, r.name)]) (by have := right_len hok; omega) (right_smalls hok) (by simp) hsm
      (repeat' first
    | refine w_seq ?_ | refine w_rg ?_ | refine wo_nil ?_ | refine g_skU ?_ | refine g_skT ?_ | refine g_skF ?_
    | ((first | apply s_plain | apply s_void | apply s_guard | apply g_goT | apply g_goF); · simp only [go_sem, Nat.reduceEqDiff, Nat.reduceAdd, Nat.reduceLeDiff, fillE, fillP, splice, List.replicate_succ, List.replicate_zero, List.set_cons_zero, List.take_succ_cons, List.drop_succ_cons, List.drop_zero]; (first | done | rfl))
    | ((first | apply g_T | apply g_F | apply g_gT | apply g_gF); · intro q1_; (first | intro q2_ | have q2_ := q1_); simp only [go_sem, Nat.reduceEqDiff, Nat.reduceAdd, Nat.reduceLeDiff, fillE, fillP, splice, List.replicate_succ, List.replicate_zero, List.set_cons_zero, List.take_succ_cons, List.drop_succ_cons, List.drop_zero, q1_, q2_]; (first | done | rfl))
    | (apply w_condX; · simp only [go_sem, Nat.reduceEqDiff, Nat.reduceAdd, Nat.reduceLeDiff, fillE, fillP, splice, List.replicate_succ, List.replicate_zero, List.set_cons_zero, List.take_succ_cons, List.drop_succ_cons, List.drop_zero]; (first | done | rfl)); (first | refine wcd_T ?_ | refine wcd_F ?_)
    | refine w_skip ?_ | refine w_exit ?_ | refine w_ret ?_
    | fail
    )
      (repeat' first
    | refine w_seq ?_ | refine w_rg ?_ | refine wo_nil ?_ | refine g_skU ?_ | refine g_skT ?_ | refine g_skF ?_
    | ((first | apply s_plain | apply s_void | apply s_guard | apply g_goT | apply g_goF); · simp only [go_sem, Nat.reduceEqDiff, Nat.reduceAdd, Nat.reduceLeDiff, fillE, fillP, splice, List.replicate_succ, List.replicate_zero, List.set_cons_zero, List.take_succ_cons, List.drop_succ_cons, List.drop_zero]; (first | done | rfl))
    | ((first | apply g_T | apply g_F | apply g_gT | apply g_gF); · intro q1_; (first | intro q2_ | have q2_ := q1_); simp only [go_sem, Nat.reduceEqDiff, Nat.reduceAdd, Nat.reduceLeDiff, fillE, fillP, splice, List.replicate_succ, List.replicate_zero, List.set_cons_zero, List.take_succ_cons, List.drop_succ_cons, List.drop_zero, q1_, q2_]; (first | done | rfl))
    | fail
    )
      have hone : labs [(alertT, r.name)] = [.agg [.sc (.string ⟨#[97, 108, 101, 114, 116]⟩), .sc (.string r.name)]] := rfl
      rw [hone] at h116'
      refine s_call (as := [.sl (labs (withL l r.labels).1), .sl [.agg [.sc (.string ⟨#[97, 108, 101, 114, 116]⟩), .sc (.string r.name)]]]) (by simp only [go_sem, Nat.reduceEqDiff, Nat.reduceAdd, Nat.reduceLeDiff, Nat.reduceAdd, List.drop_zero, List.take_succ_cons, List.take_zero]) h116' ?_
      intro σ'
      (repeat' first
    | refine w_seq ?_ | refine w_rg ?_ | refine wo_nil ?_ | refine g_skU ?_ | refine g_skT ?_ | refine g_skF ?_
    | ((first | apply s_plain | apply s_void | apply s_guard | apply g_goT | apply g_goF); · simp only [go_sem, Nat.reduceEqDiff, Nat.reduceAdd, Nat.reduceLeDiff]; (first | done | rfl))
    | ((first | apply g_T | apply g_F | apply g_gT | apply g_gF); · intro q1_; (first | intro q2_ | have q2_ := q1_); simp only [go_sem, Nat.reduceEqDiff, Nat.reduceAdd, Nat.reduceLeDiff, q1_, q2_]; (first | done | rfl))
    | (apply w_condX; · simp only [go_sem, Nat.reduceEqDiff, Nat.reduceAdd, Nat.reduceLeDiff]; (first | done | rfl)); (first | refine wcd_T ?_ | refine wcd_F ?_)
    | refine w_skip ?_ | refine w_exit ?_ | refine w_ret ?_
    | fail
    )
      exact ⟨.inr rfl, by simp only [go_sem, Nat.reduceEqDiff, Nat.reduceAdd, Nat.reduceLeDiff, retOf, resOf]; simp only [labelsR, hb, hq]; first | done | rfl⟩
end

section
variable {env : Nat → Option Def} {fr : Fr} {σ σ' : St} {K : Fr → St → Prop} {Q : X → Fr → St → Prop}
structure Seek (l : List Lab) (i : Nat) (a : List Lab) (m : Lab) (pb : PV) (k : Nat) (fr : Fr) (σ : St) : Prop where
  le : k ≤ a.length
  f9 : fr 9 = .sl (labs l)
  f11 : fr 11 = .sc (.int .i64 i)
  f10 : fr 10 = .sc (.int .i64 l.length)
  f5 : fr 5 = pb
  pb : ∃ g, pb = .bx 2000005 g 2 0 0 ∧ σ.m 2000005 g = some ⟨2, [lab m], true, true⟩ ∧ g < σ.c 2000005
  g3 : Gat σ [46] 2 false (fr 3) (labs a)
  f6 : fr 6 = .sc (.int .i64 k)
  ins : insAt m a a.length = insAt m a k
end

theorem less_before : ∀ a b : List UInt8, Op.bytesLess a b = bytesBefore a b
  | [], [] => rfl
  | [], _ :: _ => rfl
  | _ :: _, [] => rfl
  | a :: x, b :: y => by simp only [Op.bytesLess, bytesBefore, less_before x y]
theorem lessB_eq (a b : ByteArray) : lessB a b = bytesBefore a.data.toList b.data.toList := by
  unfold lessB; rw [less_before, ByteArray.toList_eq, ByteArray.toList_eq]
theorem lessB_trans {a b c : ByteArray} (h1 : lessB a b = true) (h2 : lessB b c = true) : lessB a c = true := by
  rw [lessB_eq] at *
  exact Go.WideShapes.bytes_trans _ _ _ h1 h2
theorem lessB_irrefl (a : ByteArray) : lessB a a = false := by rw [lessB_eq]; exact Go.WideAt.bytes_irrefl _
theorem lessB_total {a b : ByteArray} (h : a ≠ b) : lessB a b = true ∨ lessB b a = true := by
  rw [lessB_eq, lessB_eq]
  exact Go.WideAt.bytes_total _ _ fun he => h (Go.WideShapes.bytes_inj he)
def Rising (l : List Lab) : Prop := l.Pairwise fun a b => lessB a.1 b.1 = true
def Apart (l : List Lab) : Prop := l.Pairwise fun a b => a.1 ≠ b.1
theorem Rising.apart {l : List Lab} (h : Rising l) : Apart l := h.imp fun hab he => by
  rw [he, lessB_irrefl] at hab
  cases hab
theorem nth_eq {l : List Lab} {i : Nat} (hi : i < l.length) : nth l i = l[i] := by unfold nth; rw [List.getElem?_eq_getElem hi]; rfl
theorem right_iff {l : List Lab} : rightL l = true ↔ (∀ m ∈ l, mayB m = true) ∧ Rising l ∧ l.length ≤ 8 := by
  constructor
  · intro h
    have h8 := right_len h
    refine ⟨fun m hm => ?_, ?_, h8⟩
    · obtain ⟨i, hi⟩ := List.getElem?_of_mem hm
      have hlt := (List.getElem?_eq_some_iff.1 hi).1
      have := rightL_may h hlt
      have e : nth l i = m := by unfold nth; rw [hi]; rfl
      rwa [e] at this
    · unfold rightL at h
      simp only [Bool.and_eq_true, Bool.not_eq_true', decide_eq_false_iff_not] at h
      have hb := found_no h.1
      have step : ∀ j, j + 1 < l.length → lessB (nth l j).1 (nth l (j + 1)).1 = true := by
        intro j hj
        have := hb (j + 1) hj
        unfold badL at this
        simp only [Bool.or_eq_false_iff, Bool.and_eq_false_iff, Bool.not_eq_false', decide_eq_false_iff_not] at this
        rcases this.2 with h2 | h2
        · omega
        · exact h2
      have far : ∀ d i, i + d + 1 < l.length → lessB (nth l i).1 (nth l (i + d + 1)).1 = true := by
        intro d
        induction d with
        | zero => intro i hi; exact step i hi
        | succ d ih => intro i hi; exact lessB_trans (ih i (by omega)) (step (i + d + 1) (by omega))
      unfold Rising
      rw [List.pairwise_iff_getElem]
      intro i j hi hj hij
      have := far (j - i - 1) i (by omega)
      rw [show i + (j - i - 1) + 1 = j from by omega, nth_eq hi, nth_eq hj] at this
      exact this
  · rintro ⟨h1, h2, h3⟩
    unfold rightL
    simp only [Bool.and_eq_true, Bool.not_eq_true', decide_eq_false_iff_not, decide_eq_true_eq]
    refine ⟨?_, by omega⟩
    have : found (badL l) l.length = -1 := by
      refine found_none fun j hj => ?_
      unfold badL
      rw [nth_eq hj, h1 _ (List.getElem_mem hj)]
      simp only [Bool.not_true, Bool.false_or, Bool.and_eq_false_iff, decide_eq_false_iff_not, Bool.not_eq_false']
      cases j with
      | zero => exact .inl (by omega)
      | succ j =>
        right
        have := List.pairwise_iff_getElem.1 h2 j (j + 1) (by omega) hj (by omega)
        rw [show j + 1 - 1 = j from rfl, nth_eq (show j < l.length by omega)]
        exact this
    rw [this]
    omega
theorem insAt_perm (m : Lab) (a : List Lab) : ∀ k, k ≤ a.length → (insAt m a k).Perm (m :: a)
  | 0, _ => .refl _
  | k + 1, h => by
    simp only [insAt]
    split
    · exact insAt_perm m a k (by omega)
    · refine List.perm_middle.trans ?_
      rw [List.take_append_drop]
theorem insR_perm (a : List Lab) (m : Lab) : (insR a m).Perm (m :: a) := insAt_perm m a a.length (Nat.le_refl _)
theorem foldl_perm : ∀ (l a : List Lab), (l.foldl insR a).Perm (a ++ l)
  | [], a => by simp
  | m :: l, a => by
    refine (foldl_perm l (insR a m)).trans ?_
    refine ((insR_perm a m).append_right l).trans ?_
    simpa using (List.perm_middle (a := m) (l₁ := a) (l₂ := l)).symm
theorem sorted_perm (l : List Lab) : (sortedL l).Perm l := by simpa [sortedL] using foldl_perm l []
theorem insAt_rising {m : Lab} {a : List Lab} (ha : Rising a) (hne : ∀ x ∈ a, x.1 ≠ m.1) : ∀ k, k ≤ a.length → (∀ i (h : i < a.length), k ≤ i → lessB m.1 a[i].1 = true) → Rising (insAt m a k)
  | 0, _, hg => by
    unfold Rising insAt
    rw [List.pairwise_cons]
    refine ⟨fun x hx => ?_, ha⟩
    obtain ⟨i, hi, rfl⟩ := List.getElem_of_mem hx
    exact hg i hi (Nat.zero_le _)
  | k + 1, hk, hg => by
    unfold insAt
    split
    · rename_i hl
      refine insAt_rising ha hne k (by omega) fun i hi hki => ?_
      by_cases hik : i = k
      · subst hik
        rw [nth_eq hi] at hl
        exact hl
      · exact hg i hi (by omega)
    · rename_i hl
      have hlt : k < a.length := by omega
      rw [nth_eq hlt] at hl
      have hkm : lessB a[k].1 m.1 = true := by
        rcases lessB_total (hne _ (List.getElem_mem hlt)) with h | h
        · exact h
        · exact absurd h hl
      have hle : ∀ i (h : i < a.length), i ≤ k → lessB a[i].1 m.1 = true := by
        intro i hi hik
        by_cases he : i = k
        · subst he; exact hkm
        · exact lessB_trans (List.pairwise_iff_getElem.1 ha i k hi hlt (by omega)) hkm
      unfold Rising
      rw [List.pairwise_append]
      refine ⟨ha.sublist (List.take_sublist _ _), ?_, ?_⟩
      · rw [List.pairwise_cons]
        refine ⟨fun x hx => ?_, ha.sublist (List.drop_sublist _ _)⟩
        obtain ⟨i, hi, rfl⟩ := List.getElem_of_mem hx
        rw [List.getElem_drop]
        exact hg _ _ (by omega)
      · intro x hx y hy
        obtain ⟨i, hi, rfl⟩ := List.getElem_of_mem hx
        have hi' : i < k + 1 := by rw [List.length_take] at hi; omega
        rw [List.getElem_take]
        have hxm := hle i (by omega) (by omega)
        rcases List.mem_cons.1 hy with rfl | hy
        · exact hxm
        · obtain ⟨j, hj, rfl⟩ := List.getElem_of_mem hy
          rw [List.getElem_drop]
          exact lessB_trans hxm (hg _ _ (by omega))
theorem foldl_rising : ∀ (l a : List Lab), Rising a → Apart (a ++ l) → Rising (l.foldl insR a)
  | [], a, ha, _ => ha
  | m :: l, a, ha, hp => by
    have hperm : (a ++ m :: l).Perm (insR a m ++ l) := by
      refine List.perm_middle.trans ?_
      exact ((insR_perm a m).symm.append_right l)
    have hp' : Apart (insR a m ++ l) := (hperm.pairwise_iff (fun h => Ne.symm h)).1 hp
    refine foldl_rising l (insR a m) ?_ hp'
    refine insAt_rising ha (fun x hx => ?_) a.length (Nat.le_refl _) (fun i hi h => by omega)
    unfold Apart at hp
    rw [List.pairwise_append] at hp
    exact hp.2.2 x hx m (by simp)
theorem sorted_rising {l : List Lab} (h : Apart l) : Rising (sortedL l) := foldl_rising l [] List.Pairwise.nil (by simpa using h)
theorem sorted_right {l : List Lab} (h1 : ∀ m ∈ l, mayB m = true) (h2 : Apart l) (h3 : l.length ≤ 8) : rightL (sortedL l) = true :=
  right_iff.2 ⟨fun m hm => h1 m (mem_sorted hm), sorted_rising h2, by rw [sortedL_len]; exact h3⟩
theorem may_value {m : Lab} (h : mayB m = true) : (m.2.toList == (⟨#[]⟩ : ByteArray).toList) = false := by
  unfold mayB valueB filled at h
  simp only [Bool.and_eq_true, Bool.not_eq_true'] at h
  exact h.2.1.1
theorem miss_apart {over : List Lab} (hr : ∀ m ∈ over, mayB m = true) {m x : Lab} (hm : missB over m = true) (hx : x ∈ over) : x.1 ≠ m.1 := by
  intro he
  obtain ⟨i, hi, rfl⟩ := List.getElem_of_mem hx
  have his : isN over m.1 i = true := by unfold isN; rw [nth_eq hi, he]; simp
  obtain ⟨j, h1, h2, _⟩ := found_is hi his
  have hg : getB over m.1 = (nth over j).2 := by
    unfold getB
    rw [h1, if_neg (by omega)]
    rfl
  unfold missB at hm
  rw [hg, nth_eq h2, may_value (hr _ (List.getElem_mem h2))] at hm
  cases hm
theorem over_apart {l over : List Lab} (h1 : rightL l = true) (h2 : rightL over = true) : Apart (overL l over) := by
  obtain ⟨a1, a2, a3⟩ := right_iff.1 h1
  obtain ⟨b1, b2, b3⟩ := right_iff.1 h2
  unfold Apart overL
  rw [List.pairwise_append]
  refine ⟨b2.apart, a2.apart.sublist List.filter_sublist, fun x hx y hy => ?_⟩
  exact miss_apart b1 (List.mem_filter.1 hy).2 hx
theorem over_may {l over : List Lab} (h1 : rightL l = true) (h2 : rightL over = true) : ∀ m ∈ overL l over, mayB m = true := by
  intro m hm
  simp only [overL, List.mem_append, List.mem_filter] at hm
  rcases hm with hm | hm
  · exact (right_iff.1 h2).1 m hm
  · exact (right_iff.1 h1).1 m hm.1
theorem wrong_none {l : List Lab} (h : ∀ m ∈ l, mayB m = true) : wrongB l = false := by
  unfold wrongB
  rw [found_none fun j hj => by rw [nth_eq hj, h _ (List.getElem_mem hj)]; rfl]
  rfl
theorem withL_right {l over : List Lab} (h1 : rightL l = true) (h2 : rightL over = true) : withL l over = if (overL l over).length > 8 then ([], 2) else (sortedL (overL l over), 0) := by
  unfold withL newL
  rw [h1, h2, wrong_none (over_may h1 h2)]
  simp only [Bool.not_true, Bool.or_self, Bool.false_eq_true, if_false]
  by_cases h : (overL l over).length > 8
  · rw [if_pos (by omega), if_pos h]
  · rw [if_neg (by omega), if_neg h, sorted_right (over_may h1 h2) (over_apart h1 h2) (by omega)]
    rfl

def d176 : Def := (.code 1 [.tmp 2] (.seq (.rg false [⟨.some 1, .none, .box (.t 0)⟩, ⟨.some 2, .none, .mv (.c (.string ⟨#[]⟩))⟩]) (.seq (.rg true [⟨.some 3, .none, .fa 0 (.t 1)⟩, ⟨.some 4, .none, .ld .none (.t 3)⟩, ⟨.some 5, .none, .bin .add (.t 4) (.c (.string ⟨#[61, 34]⟩))⟩, ⟨.some 6, .none, .fa 1 (.t 1)⟩, ⟨.some 7, .none, .ld .none (.t 6)⟩, ⟨.some 8, .none, .call 215 .strict [.t 7, .c (.string ⟨#[92]⟩), .c (.string ⟨#[92, 92]⟩)]⟩, ⟨.some 9, .none, .call 215 .strict [.t 8, .c (.string ⟨#[34]⟩), .c (.string ⟨#[92, 34]⟩)]⟩, ⟨.some 10, .none, .bin .add (.t 5) (.t 9)⟩, ⟨.some 11, .none, .bin .add (.t 10) (.c (.string ⟨#[34]⟩))⟩, ⟨.some 2, .none, .mv (.t 11)⟩]) .ret)))
def d202 : Def := (.code 1 [.tmp 2, .tmp 3] (.seq (.rg false [⟨.some 2, .none, .mv (.c (.string ⟨#[]⟩))⟩, ⟨.some 3, .none, .mv (.c (.int .i64 0))⟩]) (.seq (.seq (.rg false [⟨.some 7, .none, .mv (.t 0)⟩, ⟨.some 8, .none, .call 113 .pure [.t 7]⟩, ⟨.some 9, .none, .un .not (.t 8)⟩]) (.cond (.t 9) (.seq (.rg false [⟨.some 2, .none, .mv (.c (.string ⟨#[]⟩))⟩, ⟨.some 3, .none, .mv (.c (.int .i64 1))⟩]) .ret) .skip)) (.seq (.rg false [⟨.some 4, .none, .mv (.c (.slice .none 0 0))⟩]) (.seq (.seq (.rg false [⟨.some 10, .none, .mv (.t 0)⟩, ⟨.some 11, .none, .call 134 .opn [.t 10]⟩, ⟨.some 12, .none, .lenL (.t 11)⟩, ⟨.some 13, .none, .mv (.c (.int .i64 0))⟩]) (.block 0 (.loop (.seq (.rg false [⟨.some 14, .none, .bin .lss (.t 13) (.t 12)⟩]) (.seq (.cond (.t 14) .skip (.exit 0)) (.seq (.block 1 (.seq (.rg false [⟨.some 15, .none, .ia 2 (.t 11) (.t 13)⟩, ⟨.some 16, .none, .ld (.some 2) (.t 15)⟩, ⟨.some 6, .none, .box (.c (.agg #[.string ⟨#[]⟩, .string ⟨#[]⟩]))⟩, ⟨.none, .none, .st 2 (.t 6) (.t 16)⟩]) (.rg false [⟨.some 17, .none, .mv (.t 4)⟩, ⟨.some 18, .none, .ld (.some 2) (.t 6)⟩, ⟨.some 19, .none, .call 176 .pure [.t 18]⟩, ⟨.some 20, .none, .bsl 1 (.string ⟨#[]⟩) 1 [(0, .t 19)]⟩, ⟨.some 21, .none, .app 1 16 false (.t 17) (.t 20)⟩, ⟨.some 4, .none, .mv (.t 21)⟩]))) (.rg false [⟨.some 22, .none, .bin .add (.t 13) (.c (.int .i64 1))⟩, ⟨.some 13, .none, .mv (.t 22)⟩]))))))) (.seq (.rg false [⟨.some 23, .none, .mv (.t 4)⟩, ⟨.some 24, .none, .call 23 .pure [.t 23, .c (.string ⟨#[44]⟩)]⟩, ⟨.some 25, .none, .bin .add (.c (.string ⟨#[123]⟩)) (.t 24)⟩, ⟨.some 26, .none, .bin .add (.t 25) (.c (.string ⟨#[125]⟩))⟩, ⟨.some 2, .none, .mv (.t 26)⟩, ⟨.some 3, .none, .mv (.c (.int .i64 0))⟩]) .ret))))))
def d211 : Def := (.code 1 [.tmp 2] (.seq (.rg false [⟨.some 2, .none, .mv (.c (.string ⟨#[]⟩))⟩]) (.seq (.rg false [⟨.some 7, .none, .bsl 1 (.int .u8 0) 1 [(0, .c (.int .u8 123))]⟩, ⟨.some 3, .none, .mv (.t 7)⟩]) (.seq (.seq (.rg false [⟨.some 8, .none, .mv (.t 0)⟩, ⟨.some 9, .none, .lenL (.t 8)⟩, ⟨.some 10, .none, .mv (.c (.int .i64 0))⟩]) (.block 0 (.loop (.seq (.rg false [⟨.some 11, .none, .bin .lss (.t 10) (.t 9)⟩]) (.seq (.cond (.t 11) .skip (.exit 0)) (.seq (.block 1 (.seq (.rg false [⟨.some 12, .none, .mv (.t 10)⟩, ⟨.some 13, .none, .ia 2 (.t 8) (.t 10)⟩, ⟨.some 14, .none, .ld (.some 2) (.t 13)⟩, ⟨.some 5, .none, .box (.c (.agg #[.string ⟨#[]⟩, .string ⟨#[]⟩]))⟩, ⟨.some 4, .none, .mv (.t 12)⟩, ⟨.none, .none, .st 2 (.t 5) (.t 14)⟩]) (.seq (.seq (.rg false [⟨.some 15, .none, .mv (.t 4)⟩, ⟨.some 16, .none, .bin .gtr (.t 15) (.c (.int .i64 0))⟩]) (.cond (.t 16) (.rg false [⟨.some 17, .none, .mv (.t 3)⟩, ⟨.some 18, .none, .bsl 1 (.int .u8 0) 1 [(0, .c (.int .u8 44))]⟩, ⟨.some 19, .none, .app 1 1 false (.t 17) (.t 18)⟩, ⟨.some 3, .none, .mv (.t 19)⟩]) .skip)) (.seq (.rg false [⟨.some 20, .none, .mv (.t 3)⟩, ⟨.some 21, .none, .fa 0 (.t 5)⟩, ⟨.some 22, .none, .ld .none (.t 21)⟩, ⟨.some 23, .none, .s2b (.t 22)⟩, ⟨.some 24, .none, .app 1 1 false (.t 20) (.t 23)⟩, ⟨.some 3, .none, .mv (.t 24)⟩]) (.seq (.rg false [⟨.some 25, .none, .mv (.t 3)⟩, ⟨.some 26, .none, .bsl 1 (.int .u8 0) 2 [(0, .c (.int .u8 61)), (1, .c (.int .u8 34))]⟩, ⟨.some 27, .none, .app 1 1 false (.t 25) (.t 26)⟩, ⟨.some 3, .none, .mv (.t 27)⟩]) (.seq (.seq (.rg false [⟨.some 6, .none, .mv (.c (.int .i64 0))⟩]) (.block 2 (.loop (.seq (.seq (.rg false [⟨.some 28, .none, .mv (.t 6)⟩, ⟨.some 29, .none, .fa 1 (.t 5)⟩, ⟨.some 30, .none, .ld .none (.t 29)⟩, ⟨.some 31, .none, .lenS (.t 30)⟩, ⟨.some 32, .none, .bin .lss (.t 28) (.t 31)⟩]) (.cond (.t 32) .skip (.exit 2))) (.seq (.block 3 (.seq (.seq (.rg false [⟨.some 35, .none, .fa 1 (.t 5)⟩, ⟨.some 36, .none, .ld .none (.t 35)⟩, ⟨.some 37, .none, .mv (.t 6)⟩, ⟨.some 38, .none, .ix (.t 36) (.t 37)⟩, ⟨.some 39, .none, .bin .eql (.t 38) (.c (.int .u8 34))⟩, ⟨.some 40, .none, .mv (.t 39)⟩, ⟨.some 41, .some (40, false), .fa 1 (.t 5)⟩, ⟨.some 42, .some (40, false), .ld .none (.t 41)⟩, ⟨.some 43, .some (40, false), .mv (.t 6)⟩, ⟨.some 44, .some (40, false), .ix (.t 42) (.t 43)⟩, ⟨.some 45, .some (40, false), .bin .eql (.t 44) (.c (.int .u8 92))⟩, ⟨.some 46, .none, .pick (.t 40) (.c (.bool true)) (.t 45)⟩]) (.cond (.t 46) (.rg false [⟨.some 47, .none, .mv (.t 3)⟩, ⟨.some 48, .none, .bsl 1 (.int .u8 0) 1 [(0, .c (.int .u8 92))]⟩, ⟨.some 49, .none, .app 1 1 false (.t 47) (.t 48)⟩, ⟨.some 3, .none, .mv (.t 49)⟩]) .skip)) (.rg false [⟨.some 50, .none, .mv (.t 3)⟩, ⟨.some 51, .none, .fa 1 (.t 5)⟩, ⟨.some 52, .none, .ld .none (.t 51)⟩, ⟨.some 53, .none, .mv (.t 6)⟩, ⟨.some 54, .none, .ix (.t 52) (.t 53)⟩, ⟨.some 55, .none, .bsl 1 (.int .u8 0) 1 [(0, .t 54)]⟩, ⟨.some 56, .none, .app 1 1 false (.t 50) (.t 55)⟩, ⟨.some 3, .none, .mv (.t 56)⟩]))) (.rg false [⟨.some 33, .none, .mv (.t 6)⟩, ⟨.some 34, .none, .bin .add (.t 33) (.c (.int .i64 1))⟩, ⟨.some 6, .none, .mv (.t 34)⟩])))))) (.rg false [⟨.some 57, .none, .mv (.t 3)⟩, ⟨.some 58, .none, .bsl 1 (.int .u8 0) 1 [(0, .c (.int .u8 34))]⟩, ⟨.some 59, .none, .app 1 1 false (.t 57) (.t 58)⟩, ⟨.some 3, .none, .mv (.t 59)⟩]))))))) (.rg false [⟨.some 60, .none, .bin .add (.t 10) (.c (.int .i64 1))⟩, ⟨.some 10, .none, .mv (.t 60)⟩]))))))) (.seq (.rg false [⟨.some 61, .none, .mv (.t 3)⟩, ⟨.some 62, .none, .bsl 1 (.int .u8 0) 1 [(0, .c (.int .u8 125))]⟩, ⟨.some 63, .none, .app 1 1 false (.t 61) (.t 62)⟩, ⟨.some 3, .none, .mv (.t 63)⟩]) (.seq (.rg false [⟨.some 64, .none, .mv (.t 3)⟩, ⟨.some 65, .none, .b2s (.t 64)⟩, ⟨.some 2, .none, .mv (.t 65)⟩]) .ret))))))
def lu : List (Nat × Def) := [(176, d176), (202, d202), (211, d211), (23, .prim joinF), (215, .prim replF)]
section
variable {env : Nat → Option Def} {fr : Fr} {σ σ' : St} {K : Fr → St → Prop} {Q : X → Fr → St → Prop}
/-! ### a byte that is replaced -/
def rep1 (c : UInt8) (new : List UInt8) (s : List UInt8) : List UInt8 := s.flatMap fun b => if b = c then new else [b]
theorem idx_none {c : UInt8} {new : List UInt8} : ∀ {s : List UInt8}, Lib.index s [c] = -1 → rep1 c new s = s
  | [], _ => rfl
  | b :: l, h => by
    unfold Lib.index at h
    by_cases hb : b = c
    · subst hb; simp at h
    · have hp : [c].isPrefixOf (b :: l) = false := by simp [List.isPrefixOf, Ne.symm hb]
      rw [hp] at h
      simp only [Bool.false_eq_true, if_false] at h
      have h2 : Lib.index l [c] = -1 := by
        split at h
        · rename_i h3; simpa using h3
        · have := Lib.index_ge l [c]; rename_i h3; omega
      have := idx_none (new := new) h2
      unfold rep1 at this ⊢
      simp [hb, this]
theorem idx_some {c : UInt8} {new : List UInt8} : ∀ {s : List UInt8} {i : Nat}, Lib.index s [c] = i → s.take i ++ new ++ rep1 c new (s.drop (i + 1)) = rep1 c new s
  | [], i, h => by simp [Lib.index] at h
  | b :: l, i, h => by
    unfold Lib.index at h
    by_cases hb : b = c
    · subst hb
      have hp : [b].isPrefixOf (b :: l) = true := by simp [List.isPrefixOf]
      rw [hp, if_pos rfl] at h
      have : i = 0 := by omega
      subst this
      simp [rep1]
    · have hp : [c].isPrefixOf (b :: l) = false := by simp [List.isPrefixOf, Ne.symm hb]
      rw [hp] at h
      simp only [Bool.false_eq_true, if_false] at h
      split at h
      · omega
      · rename_i h3
        have hge := Lib.index_ge l [c]
        have hne : Lib.index l [c] ≠ -1 := by simpa using h3
        obtain ⟨j, rfl⟩ : ∃ j, i = j + 1 := ⟨i - 1, by omega⟩
        have := idx_some (c := c) (new := new) (s := l) (i := j) (by omega)
        unfold rep1 at this ⊢
        simp only [List.take_succ_cons, List.drop_succ_cons, List.flatMap_cons, hb, if_false, List.cons_append, List.nil_append]
        rw [← this]
theorem replaceK_one {c : UInt8} {new : List UInt8} : ∀ (n : Nat) (s : List UInt8), s.length < n → Lib.replaceK [c] new (Lib.countFrom [c] n s) s = rep1 c new s
  | 0, s, h => by omega
  | n + 1, s, h => by
    unfold Lib.countFrom
    by_cases hi : Lib.index s [c] = -1
    · rw [if_pos (by simpa using hi)]
      exact (idx_none hi).symm
    · have hge := Lib.index_ge s [c]
      obtain ⟨i, hi'⟩ : ∃ i : Nat, Lib.index s [c] = i := ⟨(Lib.index s [c]).toNat, by omega⟩
      rw [if_neg (by simpa using hi), Nat.add_comm, Lib.replaceK_hit [c] new _ s i hi', hi', Int.toNat_natCast]
      have hroom := Lib.index_room s [c] (by omega)
      have hlen : (s.drop (i + [c].length)).length < n := by
        simp only [List.length_drop, List.length_cons, List.length_nil] at hroom ⊢
        omega
      rw [replaceK_one n _ hlen]
      exact idx_some hi'
theorem replaceAll_one {c : UInt8} {new : List UInt8} (hne : new ≠ [c]) (s : List UInt8) : Lib.replaceAll s [c] new = rep1 c new s := by
  unfold Lib.replaceAll Lib.replace
  have h1 : ([c] == new) = false := by simpa using Ne.symm hne
  rw [h1]
  simp only [Bool.false_eq_true, if_false]
  have h2 : Lib.replaceNum s [c] (-1) = Lib.count s [c] := by unfold Lib.replaceNum; rw [if_pos (.inl (by decide))]
  rw [h2]
  exact replaceK_one _ s (by omega)
def esc (s : List UInt8) : List UInt8 := s.flatMap fun b => if b = 34 ∨ b = 92 then [92, b] else [b]
theorem esc_two (s : List UInt8) : rep1 34 [92, 34] (rep1 92 [92, 92] s) = esc s := by
  unfold rep1 esc
  rw [List.flatMap_assoc]
  congr 1
  funext b
  by_cases h1 : b = 92
  · subst h1; decide
  · by_cases h2 : b = 34
    · subst h2; decide
    · simp [h1, h2]
theorem rep1_len {c : UInt8} {new : List UInt8} (hn : new.length ≤ 2) (s : List UInt8) : (rep1 c new s).length ≤ 2 * s.length := by
  unfold rep1
  induction s with
  | nil => simp
  | cons b l ih =>
    simp only [List.flatMap_cons, List.length_append, List.length_cons]
    split
    · omega
    · simp only [List.length_cons, List.length_nil]; omega
theorem esc_len (s : List UInt8) : (esc s).length ≤ 2 * s.length := by
  unfold esc
  induction s with
  | nil => simp
  | cons b l ih =>
    simp only [List.flatMap_cons, List.length_append, List.length_cons]
    split
    · simp only [List.length_cons, List.length_nil]; omega
    · simp only [List.length_cons, List.length_nil]; omega
def escS (s : ByteArray) : ByteArray := ⟨(esc s.data.toList).toArray⟩
theorem a215 (U : Has lu env) {s old new : ByteArray} (h : s.size < 4294967281 ∧ 1 ≤ old.size ∧ s.size + Lib.countB s old * new.size ≤ 140737488355328) :
    AV env 215 [.sc (.string s), .sc (.string old), .sc (.string new)] = some (.sc (.string ⟨(Lib.replaceAll s.data.toList old.data.toList new.data.toList).toArray⟩)) := by
  have hp := U (215, .prim replF) (by simp [lu])
  refine AV_of (σ := St.nil) (r := .sc (.string ⟨(Lib.replaceAll s.data.toList old.data.toList new.data.toList).toArray⟩)) (EV_of (n := 1) ?_) rfl
  simp only [evF, hp, replF]
  rw [if_pos h]
theorem a215a (U : Has lu env) {s : ByteArray} (hs : s.size ≤ 1000) : AV env 215 [.sc (.string s), .sc (.string ⟨#[92]⟩), .sc (.string ⟨#[92, 92]⟩)] = some (.sc (.string ⟨(rep1 92 [92, 92] s.data.toList).toArray⟩)) := by
  have hc := Lib.countB_le ⟨#[92]⟩ (by decide) s.size s (Nat.le_refl _)
  have h := a215 U (s := s) (old := ⟨#[92]⟩) (new := ⟨#[92, 92]⟩) ⟨by omega, by decide, by
    have : (⟨#[92, 92]⟩ : ByteArray).size = 2 := rfl
    rw [this]; omega⟩
  rw [h]
  have : Lib.replaceAll s.data.toList (⟨#[92]⟩ : ByteArray).data.toList (⟨#[92, 92]⟩ : ByteArray).data.toList = rep1 92 [92, 92] s.data.toList := replaceAll_one (by decide) _
  rw [this]
theorem a215b (U : Has lu env) {s : ByteArray} (hs : s.size ≤ 1000) : AV env 215 [.sc (.string s), .sc (.string ⟨#[34]⟩), .sc (.string ⟨#[92, 34]⟩)] = some (.sc (.string ⟨(rep1 34 [92, 34] s.data.toList).toArray⟩)) := by
  have hc := Lib.countB_le ⟨#[34]⟩ (by decide) s.size s (Nat.le_refl _)
  have h := a215 U (s := s) (old := ⟨#[34]⟩) (new := ⟨#[92, 34]⟩) ⟨by omega, by decide, by
    have : (⟨#[92, 34]⟩ : ByteArray).size = 2 := rfl
    rw [this]; omega⟩
  rw [h]
  have : Lib.replaceAll s.data.toList (⟨#[34]⟩ : ByteArray).data.toList (⟨#[92, 34]⟩ : ByteArray).data.toList = rep1 34 [92, 34] s.data.toList := replaceAll_one (by decide) _
  rw [this]
def markS (m : Lab) : ByteArray := ((m.1 ++ ⟨#[61, 34]⟩) ++ escS m.2) ++ ⟨#[34]⟩
theorem a176 (U : Has lu env) {m : Lab} (h1 : m.1.size ≤ 64) (h2 : m.2.size ≤ 64) : AV env 176 [lab m] = some (.sc (.string (markS m))) := by
  have ha := a215a U (s := m.2) (by omega)
  have l1 := rep1_len (c := 92) (new := [92, 92]) (by decide) m.2.data.toList
  have l0 : m.2.data.toList.length = m.2.size := by simp
  have s1 : (⟨(rep1 92 [92, 92] m.2.data.toList).toArray⟩ : ByteArray).size = (rep1 92 [92, 92] m.2.data.toList).length := by simp [ByteArray.size]
  have hb := a215b U (s := ⟨(rep1 92 [92, 92] m.2.data.toList).toArray⟩) (by omega)
  have e1 : (⟨(rep1 34 [92, 34] (⟨(rep1 92 [92, 92] m.2.data.toList).toArray⟩ : ByteArray).data.toList).toArray⟩ : ByteArray) = escS m.2 := by
    unfold escS
    rw [← esc_two]
  rw [e1] at hb
  have l2 := esc_len m.2.data.toList
  have s2 : (escS m.2).size = (esc m.2.data.toList).length := by simp [escS, ByteArray.size]
  have q1 : m.1.size + (⟨#[61, 34]⟩ : ByteArray).size ≤ 9223372036854775807 := by
    have : (⟨#[61, 34]⟩ : ByteArray).size = 2 := rfl
    omega
  have q2 : (m.1 ++ ⟨#[61, 34]⟩).size + (escS m.2).size ≤ 9223372036854775807 := by
    rw [ByteArray.size_append]
    have : (⟨#[61, 34]⟩ : ByteArray).size = 2 := rfl
    omega
  have q3 : ((m.1 ++ ⟨#[61, 34]⟩) ++ escS m.2).size + (⟨#[34]⟩ : ByteArray).size ≤ 9223372036854775807 := by
    rw [ByteArray.size_append, ByteArray.size_append]
    have : (⟨#[61, 34]⟩ : ByteArray).size = 2 := rfl
    have : (⟨#[34]⟩ : ByteArray).size = 1 := rfl
    omega
  refine AV_wp (U (176, d176) (by simp [lu])) rfl ?_
  unfold lab
  (repeat' first
    | refine w_seq ?_ | refine w_rg ?_ | refine wo_nil ?_ | refine g_skU ?_ | refine g_skT ?_ | refine g_skF ?_
    | ((first | apply s_plain | apply s_void | apply s_guard | apply g_goT | apply g_goF); · simp only [go_sem, Nat.reduceEqDiff, Nat.reduceAdd, Nat.reduceLeDiff, ha, hb, q1, q2, q3]; (first | done | rfl))
    | ((first | apply g_T | apply g_F | apply g_gT | apply g_gF); · intro q1_; (first | intro q2_ | have q2_ := q1_); simp only [go_sem, Nat.reduceEqDiff, Nat.reduceAdd, Nat.reduceLeDiff, ha, hb, q1, q2, q3, q1_, q2_]; (first | done | rfl))
    | (apply w_condX; · simp only [go_sem, Nat.reduceEqDiff, Nat.reduceAdd, Nat.reduceLeDiff, ha, hb, q1, q2, q3]; (first | done | rfl)); (first | refine wcd_T ?_ | refine wcd_F ?_)
    | refine w_skip ?_ | refine w_exit ?_ | refine w_ret ?_
    | fail
    )
  exact ⟨.inr rfl, by simp only [go_sem, Nat.reduceEqDiff, Nat.reduceAdd, Nat.reduceLeDiff, retOf, resOf]; first | done | rfl⟩
def partsP (l : List Lab) : List PV := l.map fun m => .sc (.string (markS m))
def bodyS (l : List Lab) : ByteArray := ⟨(Lib.join (l.map fun m => (markS m).data.toList) [44]).toArray⟩
def textS (l : List Lab) : ByteArray := (⟨#[123]⟩ ++ bodyS l) ++ ⟨#[125]⟩
theorem parts_fz (σ : St) (l : List Lab) : (partsP l).mapM (fz σ 11) = some (partsP l) := by
  induction l with
  | nil => rfl
  | cons m r ih =>
    show List.mapM (fz σ 11) (.sc (.string (markS m)) :: partsP r) = _
    rw [mapM_cons', ih]
    rfl
theorem parts_str (l : List Lab) : (partsP l).mapM strOf = some (l.map markS) := by
  induction l with
  | nil => rfl
  | cons m r ih =>
    show List.mapM strOf (.sc (.string (markS m)) :: partsP r) = _
    rw [mapM_cons', ih]
    rfl
theorem mark_size {m : Lab} (h1 : m.1.size ≤ 64) (h2 : m.2.size ≤ 64) : (markS m).data.toList.length ≤ 200 := by
  have l2 := esc_len m.2.data.toList
  have l0 : m.2.data.toList.length = m.2.size := by simp
  have s2 : (escS m.2).size = (esc m.2.data.toList).length := by simp [escS, ByteArray.size]
  have : (markS m).data.toList.length = (markS m).size := by simp
  rw [this]
  unfold markS
  rw [ByteArray.size_append, ByteArray.size_append, ByteArray.size_append]
  have : (⟨#[61, 34]⟩ : ByteArray).size = 2 := rfl
  have : (⟨#[34]⟩ : ByteArray).size = 1 := rfl
  omega
theorem join_len (sep : List UInt8) : ∀ (xs : List (List UInt8)), (∀ x ∈ xs, x.length ≤ 200) → sep.length ≤ 1 → (Lib.join xs sep).length ≤ 201 * xs.length
  | [], _, _ => by simp [Lib.join]
  | x :: r, h, hs => by
    rw [Lib.join_cons]
    have hx := h x (by simp)
    have : ∀ r : List (List UInt8), (∀ x ∈ r, x.length ≤ 200) → (Lib.joinTail sep r).length ≤ 201 * r.length := by
      intro r
      induction r with
      | nil => intro _; simp [Lib.joinTail]
      | cons y r ih =>
        intro h
        have hy := h y (by simp)
        have := ih fun x hx => h x (by simp [hx])
        unfold Lib.joinTail at this ⊢
        simp only [List.map_cons, List.flatten_cons, List.length_append, List.length_cons]
        omega
    have := this r fun x hx => h x (by simp [hx])
    simp only [List.length_append, List.length_cons]
    omega
theorem a23 (U : Has lu env) {l : List Lab} (h1 : ∀ m ∈ l, m.1.size ≤ 64 ∧ m.2.size ≤ 64) (h8 : l.length ≤ 8) : AV env 23 [.sl (partsP l), .sc (.string ⟨#[44]⟩)] = some (.sc (.string (bodyS l))) := by
  have hp := U (23, .prim joinF) (by simp [lu])
  refine AV_of (σ := St.nil) (r := .sc (.string (bodyS l))) (EV_of (n := 1) ?_) rfl
  simp only [evF, hp, joinF, parts_str, Option.bind_some]
  have hm : (l.map markS).map (·.data.toList) = l.map fun m => (markS m).data.toList := by simp
  have hj := join_len [44] (l.map fun m => (markS m).data.toList) (fun x hx => by
    obtain ⟨m, hm, rfl⟩ := List.mem_map.1 hx
    exact mark_size (h1 m hm).1 (h1 m hm).2) (by simp)
  rw [List.length_map] at hj
  rw [hm, if_pos ⟨by rw [List.length_map]; omega, by
    show (Lib.join _ [44]).length ≤ _
    omega⟩]
  rfl
theorem may_size {m : Lab} (h : mayB m = true) : m.1.size ≤ 64 ∧ m.2.size ≤ 64 := by
  unfold mayB nameB valueB at h
  simp only [Bool.and_eq_true, decide_eq_true_eq] at h
  omega
theorem a202 (H : Has la0 env) (G : Has lc env) (P : Has lp env) (U : Has lu env) {l : List Lab} (hn : l.length ≤ 9223372036854775807) (hl : Smalls l) :
    AV env 202 [.sl (labs l)] = some (.tu [.sc (.string (if rightL l = true then textS l else ⟨#[]⟩)), .sc (.int .i64 (if rightL l = true then 0 else 1))]) := by
  have hll := labs_len l
  have h113 := a113 H G hn hl
  refine AV_wp (U (202, d202) (by simp [lu])) rfl ?_
  (repeat' first
    | refine w_seq ?_ | refine w_rg ?_ | refine wo_nil ?_ | refine g_skU ?_ | refine g_skT ?_ | refine g_skF ?_
    | ((first | apply s_plain | apply s_void | apply s_guard | apply g_goT | apply g_goF); · simp only [go_sem, Nat.reduceEqDiff, Nat.reduceAdd, Nat.reduceLeDiff, h113]; (first | done | rfl))
    | ((first | apply g_T | apply g_F | apply g_gT | apply g_gF); · intro q1_; (first | intro q2_ | have q2_ := q1_); simp only [go_sem, Nat.reduceEqDiff, Nat.reduceAdd, Nat.reduceLeDiff, h113, q1_, q2_]; (first | done | rfl))
    | fail
    )
  cases hr : rightL l with
  | false =>
    (repeat' first
    | refine w_seq ?_ | refine w_rg ?_ | refine wo_nil ?_ | refine g_skU ?_ | refine g_skT ?_ | refine g_skF ?_
    | ((first | apply s_plain | apply s_void | apply s_guard | apply g_goT | apply g_goF); · simp only [go_sem, Nat.reduceEqDiff, Nat.reduceAdd, Nat.reduceLeDiff]; (first | done | rfl))
    | ((first | apply g_T | apply g_F | apply g_gT | apply g_gF); · intro q1_; (first | intro q2_ | have q2_ := q1_); simp only [go_sem, Nat.reduceEqDiff, Nat.reduceAdd, Nat.reduceLeDiff, q1_, q2_]; (first | done | rfl))
    | (apply w_condX; · simp only [go_sem, Nat.reduceEqDiff, Nat.reduceAdd, Nat.reduceLeDiff]; (first | done | rfl)); (first | refine wcd_T ?_ | refine wcd_F ?_)
    | refine w_skip ?_ | refine w_exit ?_ | refine w_ret ?_
    | fail
    )
    exact ⟨.inr rfl, by simp only [go_sem, Nat.reduceEqDiff, Nat.reduceAdd, Nat.reduceLeDiff, retOf, resOf]; first | done | rfl⟩
  | true =>
    obtain ⟨hmay, _, h8⟩ := right_iff.1 hr
    have hsz : ∀ m ∈ l, m.1.size ≤ 64 ∧ m.2.size ≤ 64 := fun m hm => may_size (hmay m hm)
    obtain ⟨r, σ1, h134, hg⟩ := a134 (σ := St.nil) P (l := l) (by omega)
    (repeat' first
    | refine w_seq ?_ | refine w_rg ?_ | refine wo_nil ?_ | refine g_skU ?_ | refine g_skT ?_ | refine g_skF ?_
    | ((first | apply s_plain | apply s_void | apply s_guard | apply g_goT | apply g_goF); · simp only [go_sem, Nat.reduceEqDiff, Nat.reduceAdd, Nat.reduceLeDiff]; (first | done | rfl))
    | ((first | apply g_T | apply g_F | apply g_gT | apply g_gF); · intro q1_; (first | intro q2_ | have q2_ := q1_); simp only [go_sem, Nat.reduceEqDiff, Nat.reduceAdd, Nat.reduceLeDiff, q1_, q2_]; (first | done | rfl))
    | (apply w_condX; · simp only [go_sem, Nat.reduceEqDiff, Nat.reduceAdd, Nat.reduceLeDiff]; (first | done | rfl)); (first | refine wcd_T ?_ | refine wcd_F ?_)
    | refine w_skip ?_ | refine w_exit ?_ | refine w_ret ?_
    | fail
    )
    (repeat' first
    | refine w_seq ?_ | refine w_rg ?_ | refine wo_nil ?_ | refine g_skU ?_ | refine g_skT ?_ | refine g_skF ?_
    | ((first | apply s_plain | apply s_void | apply s_guard | apply g_goT | apply g_goF); · simp only [go_sem, Nat.reduceEqDiff, Nat.reduceAdd, Nat.reduceLeDiff, h134]; (first | done | rfl))
    | ((first | apply g_T | apply g_F | apply g_gT | apply g_gF); · intro q1_; (first | intro q2_ | have q2_ := q1_); simp only [go_sem, Nat.reduceEqDiff, Nat.reduceAdd, Nat.reduceLeDiff, h134, q1_, q2_]; (first | done | rfl))
    | fail
    )
    refine s_plain (gat_len hg (by simp only [go_sem, Nat.reduceEqDiff, Nat.reduceAdd, Nat.reduceLeDiff])) ?_
    (repeat' first
    | refine w_seq ?_ | refine w_rg ?_ | refine wo_nil ?_ | refine g_skU ?_ | refine g_skT ?_ | refine g_skF ?_
    | ((first | apply s_plain | apply s_void | apply s_guard | apply g_goT | apply g_goF); · simp only [go_sem, Nat.reduceEqDiff, Nat.reduceAdd, Nat.reduceLeDiff, hll]; (first | done | rfl))
    | ((first | apply g_T | apply g_F | apply g_gT | apply g_gF); · intro q1_; (first | intro q2_ | have q2_ := q1_); simp only [go_sem, Nat.reduceEqDiff, Nat.reduceAdd, Nat.reduceLeDiff, hll, q1_, q2_]; (first | done | rfl))
    | fail
    )
    refine w_block (w_range l.length hn (fun i fr σ => Gat σ [15] 2 true (fr 11) (labs l) ∧ Gat σ [21] 1 false (fr 4) (partsP (l.take i))) (by decide) ?_ ?_ ?_ _ _ ?_ ?_ ?_)
    · rintro i fr σ v ⟨h0, h1⟩
      refine ⟨⟨?_, ?_⟩, ⟨?_, ?_⟩, ⟨?_, ?_⟩⟩ <;> simp only [go_sem, Nat.reduceEqDiff, Nat.reduceAdd, Nat.reduceLeDiff, h0, h1]
    · rintro i fr σ hi ⟨g11, hg⟩ hti htn
      rcases g11 with ⟨_, hnil⟩ | ⟨o, g, wr, ho, q11, qm, qc, qne, qw⟩
      · exfalso
        have := congrArg List.length hnil
        rw [hll] at this
        simp only [List.length_nil] at this
        omega
      · have ho' : o = 15 := by simpa using ho
        subst ho'
        have g11 : Gat σ [15] 2 true (fr 11) (labs l) := .inr ⟨15, g, wr, ho, q11, qm, qc, qne, qw⟩
        rw [hll] at q11
        have hy := labs_at (List.getElem?_eq_getElem hi)
        have e1 : (0 : Int) ≤ (i : Int) ∧ (i : Int) < (l.length : Int) := by omega
        have h176 := a176 U (m := l[i]) (hsz _ (List.getElem_mem hi)).1 (hsz _ (List.getElem_mem hi)).2
        refine w_block ?_
        simp only [lab] at hy h176
        (repeat' first
    | refine w_seq ?_ | refine w_rg ?_ | refine wo_nil ?_ | refine g_skU ?_ | refine g_skT ?_ | refine g_skF ?_
    | ((first | apply s_plain | apply s_void | apply s_guard | apply g_goT | apply g_goF); · simp only [go_sem, Nat.reduceEqDiff, Nat.reduceAdd, Nat.reduceLeDiff, q11, qm, hti, e1, Int.toNat_natCast, hy, h176, List.modify_zero_cons, fillE, List.replicate_succ, List.replicate_zero, List.set_cons_zero, List.drop_zero]; (first | done | rfl))
    | ((first | apply g_T | apply g_F | apply g_gT | apply g_gF); · intro q1_; (first | intro q2_ | have q2_ := q1_); simp only [go_sem, Nat.reduceEqDiff, Nat.reduceAdd, Nat.reduceLeDiff, q11, qm, hti, e1, Int.toNat_natCast, hy, h176, List.modify_zero_cons, fillE, List.replicate_succ, List.replicate_zero, List.set_cons_zero, List.drop_zero, q1_, q2_]; (first | done | rfl))
    | fail
    )
        have hpt : partsP (l.take (i + 1)) = partsP (l.take i) ++ [.sc (.string (markS l[i]))] := by
          rw [List.take_succ_eq_append_getElem hi]; simp only [partsP, List.map_append, List.map_cons, List.map_nil]
        have hlen : (partsP (l.take i)).length ≤ 8 := by simp [partsP, List.length_take]; omega
        refine s_gatL (os := [21]) (w := false) (ys := [.sc (.string (markS l[i]))]) (by simp only [go_sem, Nat.reduceEqDiff, Nat.reduceAdd, Nat.reduceLeDiff]; exact ((hg.new _).put (d := 2000006) (by decide) _).new _) (by simp only [go_sem, Nat.reduceEqDiff, Nat.reduceAdd, Nat.reduceLeDiff, srcOf, elemsOf]) rfl (by simp; omega) ?_
        intro p σ' hg2 kp
        rw [Bool.false_and, ← hpt] at hg2
        (repeat' first
    | refine w_seq ?_ | refine w_rg ?_ | refine wo_nil ?_ | refine g_skU ?_ | refine g_skT ?_ | refine g_skF ?_
    | ((first | apply s_plain | apply s_void | apply s_guard | apply g_goT | apply g_goF); · simp only [go_sem, Nat.reduceEqDiff, Nat.reduceAdd, Nat.reduceLeDiff]; (first | done | rfl))
    | ((first | apply g_T | apply g_F | apply g_gT | apply g_gF); · intro q1_; (first | intro q2_ | have q2_ := q1_); simp only [go_sem, Nat.reduceEqDiff, Nat.reduceAdd, Nat.reduceLeDiff, q1_, q2_]; (first | done | rfl))
    | fail
    )
        refine ⟨⟨?_, ?_⟩, ?_, ?_⟩
        · simp only [go_sem, Nat.reduceEqDiff, Nat.reduceAdd, Nat.reduceLeDiff]; exact ((((g11.new _).put (d := 2000006) (by decide) _).new _).keep kp (by simp))
        · simp only [go_sem, Nat.reduceEqDiff, Nat.reduceAdd, Nat.reduceLeDiff]; exact hg2
        · simp only [go_sem, Nat.reduceEqDiff, Nat.reduceAdd, Nat.reduceLeDiff, hti]
        · simp only [go_sem, Nat.reduceEqDiff, Nat.reduceAdd, Nat.reduceLeDiff, htn]
    · rintro fr σ ⟨_, hg⟩
      try simp only [if_true]
      rw [List.take_of_length_le (Nat.le_refl _)] at hg
      have hfz := hg.fz (parts_fz σ _)
      have h23 := a23 U hsz h8
      have bl : (bodyS l).size ≤ 1608 := by
        have hj := join_len [44] (l.map fun m => (markS m).data.toList) (fun x hx => by
          obtain ⟨m, hm, rfl⟩ := List.mem_map.1 hx
          exact mark_size (hsz m hm).1 (hsz m hm).2) (by simp)
        rw [List.length_map] at hj
        simp only [bodyS, ByteArray.size, List.size_toArray]
        omega
      have q1 : (⟨#[123]⟩ : ByteArray).size + (bodyS l).size ≤ 9223372036854775807 := by
        have : (⟨#[123]⟩ : ByteArray).size = 1 := rfl
        omega
      have q2 : (⟨#[123]⟩ ++ bodyS l).size + (⟨#[125]⟩ : ByteArray).size ≤ 9223372036854775807 := by
        rw [ByteArray.size_append]
        have : (⟨#[123]⟩ : ByteArray).size = 1 := rfl
        have : (⟨#[125]⟩ : ByteArray).size = 1 := rfl
        omega
      (repeat' first
    | refine w_seq ?_ | refine w_rg ?_ | refine wo_nil ?_ | refine g_skU ?_ | refine g_skT ?_ | refine g_skF ?_
    | ((first | apply s_plain | apply s_void | apply s_guard | apply g_goT | apply g_goF); · simp only [go_sem, Nat.reduceEqDiff, Nat.reduceAdd, Nat.reduceLeDiff]; (first | done | rfl))
    | ((first | apply g_T | apply g_F | apply g_gT | apply g_gF); · intro q1_; (first | intro q2_ | have q2_ := q1_); simp only [go_sem, Nat.reduceEqDiff, Nat.reduceAdd, Nat.reduceLeDiff, q1_, q2_]; (first | done | rfl))
    | fail
    )
      refine s_call (as := [.sl (partsP l), .sc (.string ⟨#[44]⟩)]) (by simp only [go_sem, Nat.reduceEqDiff, Nat.reduceAdd, Nat.reduceLeDiff, hfz]) h23 ?_
      intro σ'
      (repeat' first
    | refine w_seq ?_ | refine w_rg ?_ | refine wo_nil ?_ | refine g_skU ?_ | refine g_skT ?_ | refine g_skF ?_
    | ((first | apply s_plain | apply s_void | apply s_guard | apply g_goT | apply g_goF); · simp only [go_sem, Nat.reduceEqDiff, Nat.reduceAdd, Nat.reduceLeDiff, q1, q2]; (first | done | rfl))
    | ((first | apply g_T | apply g_F | apply g_gT | apply g_gF); · intro q1_; (first | intro q2_ | have q2_ := q1_); simp only [go_sem, Nat.reduceEqDiff, Nat.reduceAdd, Nat.reduceLeDiff, q1, q2, q1_, q2_]; (first | done | rfl))
    | (apply w_condX; · simp only [go_sem, Nat.reduceEqDiff, Nat.reduceAdd, Nat.reduceLeDiff, q1, q2]; (first | done | rfl)); (first | refine wcd_T ?_ | refine wcd_F ?_)
    | refine w_skip ?_ | refine w_exit ?_ | refine w_ret ?_
    | fail
    )
      exact ⟨.inr rfl, by simp only [go_sem, Nat.reduceEqDiff, Nat.reduceAdd, Nat.reduceLeDiff, retOf, resOf, hr]; first | done | rfl⟩
    · exact ⟨by simp only [go_sem, Nat.reduceEqDiff, Nat.reduceAdd, Nat.reduceLeDiff]; exact hg, by simp only [go_sem, Nat.reduceEqDiff, Nat.reduceAdd, Nat.reduceLeDiff]; exact .em⟩
    · simp only [go_sem, Nat.reduceEqDiff, Nat.reduceAdd, Nat.reduceLeDiff]
    · simp only [go_sem, Nat.reduceEqDiff, Nat.reduceAdd, Nat.reduceLeDiff, hll]
end

section
variable {env : Nat → Option Def} {fr : Fr} {σ σ' : St} {K : Fr → St → Prop} {Q : X → Fr → St → Prop}
def bp (l : List UInt8) : List PV := l.map fun b => .sc (.int .u8 b.toNat)
def OS : List Nat := [7, 19, 24, 27, 49, 56, 59]
structure Wr (l : List Lab) (i : Nat) (m : Lab) (out : List UInt8) (fr : Fr) (σ : St) : Prop where
  f8 : fr 8 = .sl (labs l)
  f9 : fr 9 = .sc (.int .i64 l.length)
  f10 : fr 10 = .sc (.int .i64 i)
  f4 : fr 4 = .sc (.int .i64 i)
  f5 : ∃ g, fr 5 = .bx 2000005 g 2 0 0 ∧ σ.m 2000005 g = some ⟨2, [.agg [.sc (.string m.1), .sc (.string m.2)]], true, true⟩ ∧ g < σ.c 2000005
  g3 : Gat σ OS 1 false (fr 3) (bp out)
end

def d37 : Def := (.code 2 [.tmp 4] (.seq (.rg false [⟨.some 4, .none, .mv (.c (.int .i64 0))⟩]) (.seq (.seq (.rg false [⟨.some 6, .none, .mv (.t 0)⟩, ⟨.some 7, .none, .lenL (.t 6)⟩, ⟨.some 8, .none, .mv (.c (.int .i64 0))⟩]) (.block 0 (.loop (.seq (.rg false [⟨.some 9, .none, .bin .lss (.t 8) (.t 7)⟩]) (.seq (.cond (.t 9) .skip (.exit 0)) (.seq (.block 1 (.seq (.rg false [⟨.some 10, .none, .mv (.t 8)⟩, ⟨.some 5, .none, .mv (.t 10)⟩]) (.seq (.rg false [⟨.some 11, .none, .mv (.t 1)⟩, ⟨.some 12, .none, .mv (.t 0)⟩, ⟨.some 13, .none, .mv (.t 5)⟩, ⟨.some 14, .none, .ia 1 (.t 12) (.t 13)⟩, ⟨.some 15, .none, .ld .none (.t 14)⟩, ⟨.some 16, .none, .bin .eql (.t 11) (.t 15)⟩]) (.cond (.t 16) (.seq (.rg false [⟨.some 17, .none, .mv (.t 5)⟩, ⟨.some 4, .none, .mv (.t 17)⟩]) .ret) .skip)))) (.rg false [⟨.some 18, .none, .bin .add (.t 8) (.c (.int .i64 1))⟩, ⟨.some 8, .none, .mv (.t 18)⟩]))))))) (.seq (.rg false [⟨.some 4, .none, .mv (.c (.int .i64 (-1)))⟩]) .ret))))
def d50 : Def := (.code 2 [.tmp 4] (.seq (.rg false [⟨.some 4, .none, .mv (.c (.bool false))⟩]) (.seq (.rg false [⟨.some 5, .none, .mv (.t 0)⟩, ⟨.some 6, .none, .mv (.t 1)⟩, ⟨.some 7, .none, .call 37 .pure [.t 5, .t 6]⟩, ⟨.some 8, .none, .bin .geq (.t 7) (.c (.int .i64 0))⟩, ⟨.some 4, .none, .mv (.t 8)⟩]) .ret)))
def d247 : Def := (.code 2 [.tmp 3] (.seq (.rg false [⟨.some 2, .none, .box (.t 0)⟩, ⟨.some 3, .none, .mv (.c (.bool false))⟩]) (.seq (.rg false [⟨.some 4, .none, .ld .none (.t 1)⟩, ⟨.some 5, .none, .fa 0 (.t 2)⟩, ⟨.some 6, .none, .ld .none (.t 5)⟩, ⟨.some 7, .none, .call 50 .pure [.t 4, .t 6]⟩, ⟨.some 8, .none, .un .not (.t 7)⟩, ⟨.some 3, .none, .mv (.t 8)⟩]) .ret)))
def d243 : Def := (.code 1 [.tmp 2] (.seq (.rg false [⟨.some 2, .none, .mv (.c (.slice .none 0 0))⟩]) (.seq (.rg false [⟨.some 3, .none, .mv (.c (.slice .none 0 0))⟩]) (.seq (.seq (.rg false [⟨.some 6, .none, .mv (.t 0)⟩, ⟨.some 7, .none, .mv (.t 0)⟩, ⟨.some 8, .none, .lenL (.t 7)⟩, ⟨.some 9, .none, .mnmx false [.t 8, .c (.int .i64 10)]⟩, ⟨.some 10, .none, .slcL 1 (.t 6) .none (.some (.t 9))⟩, ⟨.some 11, .none, .lenL (.t 10)⟩, ⟨.some 12, .none, .mv (.c (.int .i64 0))⟩]) (.block 0 (.loop (.seq (.rg false [⟨.some 13, .none, .bin .lss (.t 12) (.t 11)⟩]) (.seq (.cond (.t 13) .skip (.exit 0)) (.seq (.block 1 (.seq (.rg false [⟨.some 14, .none, .ia 1 (.t 10) (.t 12)⟩, ⟨.some 15, .none, .ld .none (.t 14)⟩, ⟨.some 5, .none, .mv (.t 15)⟩]) (.rg false [⟨.some 16, .none, .mv (.t 3)⟩, ⟨.some 17, .none, .mv (.t 5)⟩, ⟨.some 18, .none, .mv (.t 5)⟩, ⟨.some 19, .none, .lenS (.t 18)⟩, ⟨.some 20, .none, .mnmx false [.t 19, .c (.int .i64 70)]⟩, ⟨.some 21, .none, .slcS (.t 17) .none (.some (.t 20))⟩, ⟨.some 22, .none, .bsl 1 (.string ⟨#[]⟩) 1 [(0, .t 21)]⟩, ⟨.some 23, .none, .app 1 16 false (.t 16) (.t 22)⟩, ⟨.some 3, .none, .mv (.t 23)⟩]))) (.rg false [⟨.some 24, .none, .bin .add (.t 12) (.c (.int .i64 1))⟩, ⟨.some 12, .none, .mv (.t 24)⟩]))))))) (.seq (.rg false [⟨.some 25, .none, .mv (.t 3)⟩, ⟨.some 2, .none, .mv (.t 25)⟩]) .ret)))))
def d245 : Def := (.code 2 [.tmp 4] (.seq (.rg false [⟨.some 4, .none, .mv (.c (.slice .none 0 0))⟩]) (.seq (.rg false [⟨.some 11, .none, .mv (.c (.slice .none 0 0))⟩, ⟨.some 5, .none, .mv (.t 11)⟩]) (.seq (.seq (.rg false [⟨.some 12, .none, .mv (.t 0)⟩, ⟨.some 13, .none, .lenL (.t 12)⟩, ⟨.some 14, .none, .mv (.c (.int .i64 0))⟩]) (.block 0 (.loop (.seq (.rg false [⟨.some 15, .none, .bin .lss (.t 14) (.t 13)⟩]) (.seq (.cond (.t 15) .skip (.exit 0)) (.seq (.block 1 (.seq (.rg false [⟨.some 16, .none, .ia 2 (.t 12) (.t 14)⟩, ⟨.some 17, .none, .ld (.some 2) (.t 16)⟩, ⟨.some 7, .none, .box (.c (.agg #[.string ⟨#[]⟩, .string ⟨#[]⟩]))⟩, ⟨.none, .none, .st 2 (.t 7) (.t 17)⟩]) (.seq (.rg false [⟨.some 8, .none, .mv (.c (.bool false))⟩]) (.seq (.seq (.rg false [⟨.some 18, .none, .mv (.t 1)⟩, ⟨.some 19, .none, .lenL (.t 18)⟩, ⟨.some 20, .none, .mv (.c (.int .i64 0))⟩]) (.block 2 (.loop (.seq (.rg false [⟨.some 21, .none, .bin .lss (.t 20) (.t 19)⟩]) (.seq (.cond (.t 21) .skip (.exit 2)) (.seq (.block 3 (.seq (.rg false [⟨.some 22, .none, .ia 1 (.t 18) (.t 20)⟩, ⟨.some 23, .none, .ld .none (.t 22)⟩, ⟨.some 10, .none, .mv (.t 23)⟩]) (.rg false [⟨.some 24, .none, .mv (.t 8)⟩, ⟨.some 25, .none, .mv (.t 24)⟩, ⟨.some 26, .some (25, false), .mv (.t 10)⟩, ⟨.some 27, .some (25, false), .fa 0 (.t 7)⟩, ⟨.some 28, .some (25, false), .ld .none (.t 27)⟩, ⟨.some 29, .some (25, false), .bin .eql (.t 26) (.t 28)⟩, ⟨.some 30, .none, .pick (.t 25) (.c (.bool true)) (.t 29)⟩, ⟨.some 8, .none, .mv (.t 30)⟩]))) (.rg false [⟨.some 31, .none, .bin .add (.t 20) (.c (.int .i64 1))⟩, ⟨.some 20, .none, .mv (.t 31)⟩]))))))) (.seq (.rg false [⟨.some 32, .none, .mv (.t 8)⟩]) (.cond (.t 32) (.rg false [⟨.some 33, .none, .mv (.t 5)⟩, ⟨.some 34, .none, .ld (.some 2) (.t 7)⟩, ⟨.some 35, .none, .bsl 2 (.agg #[.string ⟨#[]⟩, .string ⟨#[]⟩]) 1 [(0, .t 34)]⟩, ⟨.some 36, .none, .app 2 32 false (.t 33) (.t 35)⟩, ⟨.some 5, .none, .mv (.t 36)⟩]) .skip)))))) (.rg false [⟨.some 37, .none, .bin .add (.t 14) (.c (.int .i64 1))⟩, ⟨.some 14, .none, .mv (.t 37)⟩]))))))) (.seq (.rg false [⟨.some 38, .none, .mv (.t 5)⟩, ⟨.some 4, .none, .mv (.t 38)⟩]) .ret)))))
def lx0 : List (Nat × Def) := [(37, d37), (50, d50)]
def lx : List (Nat × Def) := [(37, d37), (50, d50), (247, d247), (243, d243), (245, d245)]
section
variable {env : Nat → Option Def} {fr : Fr} {σ σ' : St} {K : Fr → St → Prop} {Q : X → Fr → St → Prop}
def strs (l : List ByteArray) : List PV := l.map fun s => .sc (.string s)
theorem strs_len (l : List ByteArray) : (strs l).length = l.length := by simp [strs]
theorem strs_at {l : List ByteArray} {i : Nat} {s : ByteArray} (h : l[i]? = some s) : (strs l)[i]? = some (.sc (.string s)) := by simp [strs, h]
def nthS (l : List ByteArray) (i : Nat) : ByteArray := l[i]?.getD ⟨#[]⟩
theorem nthS_eq {l : List ByteArray} {i : Nat} (hi : i < l.length) : nthS l i = l[i] := by unfold nthS; rw [List.getElem?_eq_getElem hi]; rfl
def isS (l : List ByteArray) (s : ByteArray) (i : Nat) : Bool := s.toList == (nthS l i).toList
def hasN (l : List ByteArray) (s : ByteArray) : Bool := decide (found (isS l s) l.length ≥ 0)
theorem a37 (X : Has lx0 env) {l : List ByteArray} (hn : l.length ≤ 9223372036854775807) (s : ByteArray) : AV env 37 [.sl (strs l), .sc (.string s)] = some (.sc (.int .i64 (found (isS l s) l.length))) := by
  refine AV_wp (X (37, d37) (by simp [lx0])) rfl ?_
  have hll := strs_len l
  (repeat' first
    | refine w_seq ?_ | refine w_rg ?_ | refine wo_nil ?_ | refine g_skU ?_ | refine g_skT ?_ | refine g_skF ?_
    | ((first | apply s_plain | apply s_void | apply s_guard | apply g_goT | apply g_goF); · simp only [go_sem, Nat.reduceEqDiff, Nat.reduceAdd, Nat.reduceLeDiff, hll]; (first | done | rfl))
    | ((first | apply g_T | apply g_F | apply g_gT | apply g_gF); · intro q1_; (first | intro q2_ | have q2_ := q1_); simp only [go_sem, Nat.reduceEqDiff, Nat.reduceAdd, Nat.reduceLeDiff, hll, q1_, q2_]; (first | done | rfl))
    | fail
    )
  refine w_block (w_range l.length hn (fun i fr σ => fr 0 = .sl (strs l) ∧ fr 1 = .sc (.string s) ∧ ∀ j, j < i → isS l s j = false) (by decide) ?_ ?_ ?_ _ _ ?_ ?_ ?_)
  · rintro i fr σ v ⟨h0, h1, h2⟩
    refine ⟨⟨?_, ?_, h2⟩, ⟨?_, ?_, h2⟩, ⟨?_, ?_, h2⟩⟩ <;> simp only [go_sem, Nat.reduceEqDiff, Nat.reduceAdd, Nat.reduceLeDiff, h0, h1]
  · rintro i fr σ hi ⟨h0, h1, h3⟩ hti htn
    have hy := strs_at (List.getElem?_eq_getElem hi)
    have hni := nthS_eq hi
    have e1 : (0 : Int) ≤ (i : Int) ∧ (i : Int) < (l.length : Int) := by omega
    refine w_block ?_
    (repeat' first
    | refine w_seq ?_ | refine w_rg ?_ | refine wo_nil ?_ | refine g_skU ?_ | refine g_skT ?_ | refine g_skF ?_
    | ((first | apply s_plain | apply s_void | apply s_guard | apply g_goT | apply g_goF); · simp only [go_sem, Nat.reduceEqDiff, Nat.reduceAdd, Nat.reduceLeDiff, h0, h1, hti, e1, hll, Int.toNat_natCast, hy]; (first | done | rfl))
    | ((first | apply g_T | apply g_F | apply g_gT | apply g_gF); · intro q1_; (first | intro q2_ | have q2_ := q1_); simp only [go_sem, Nat.reduceEqDiff, Nat.reduceAdd, Nat.reduceLeDiff, h0, h1, hti, e1, hll, Int.toNat_natCast, hy, q1_, q2_]; (first | done | rfl))
    | fail
    )
    have hbad : isS l s i = (s.toList == l[i].toList) := by unfold isS; rw [hni]
    rw [← hbad]
    cases hpi : isS l s i with
    | true =>
      (repeat' first
    | refine w_seq ?_ | refine w_rg ?_ | refine wo_nil ?_ | refine g_skU ?_ | refine g_skT ?_ | refine g_skF ?_
    | ((first | apply s_plain | apply s_void | apply s_guard | apply g_goT | apply g_goF); · simp only [go_sem, Nat.reduceEqDiff, Nat.reduceAdd, Nat.reduceLeDiff]; (first | done | rfl))
    | ((first | apply g_T | apply g_F | apply g_gT | apply g_gF); · intro q1_; (first | intro q2_ | have q2_ := q1_); simp only [go_sem, Nat.reduceEqDiff, Nat.reduceAdd, Nat.reduceLeDiff, q1_, q2_]; (first | done | rfl))
    | (apply w_condX; · simp only [go_sem, Nat.reduceEqDiff, Nat.reduceAdd, Nat.reduceLeDiff]; (first | done | rfl)); (first | refine wcd_T ?_ | refine wcd_F ?_)
    | refine w_skip ?_ | refine w_exit ?_ | refine w_ret ?_
    | fail
    )
      exact ⟨.inr rfl, by simp only [go_sem, Nat.reduceEqDiff, Nat.reduceAdd, Nat.reduceLeDiff, retOf, resOf, found_hit hi h3 hpi]⟩
    | false =>
      (repeat' first
    | refine w_seq ?_ | refine w_rg ?_ | refine wo_nil ?_ | refine g_skU ?_ | refine g_skT ?_ | refine g_skF ?_
    | ((first | apply s_plain | apply s_void | apply s_guard | apply g_goT | apply g_goF); · simp only [go_sem, Nat.reduceEqDiff, Nat.reduceAdd, Nat.reduceLeDiff]; (first | done | rfl))
    | ((first | apply g_T | apply g_F | apply g_gT | apply g_gF); · intro q1_; (first | intro q2_ | have q2_ := q1_); simp only [go_sem, Nat.reduceEqDiff, Nat.reduceAdd, Nat.reduceLeDiff, q1_, q2_]; (first | done | rfl))
    | (apply w_condX; · simp only [go_sem, Nat.reduceEqDiff, Nat.reduceAdd, Nat.reduceLeDiff]; (first | done | rfl)); (first | refine wcd_T ?_ | refine wcd_F ?_)
    | refine w_skip ?_ | refine w_exit ?_ | refine w_ret ?_
    | fail
    )
      refine ⟨⟨?_, ?_, fun j hj => ?_⟩, ?_, ?_⟩
      · simp only [go_sem, Nat.reduceEqDiff, Nat.reduceAdd, Nat.reduceLeDiff, h0]
      · simp only [go_sem, Nat.reduceEqDiff, Nat.reduceAdd, Nat.reduceLeDiff, h1]
      · by_cases hji : j = i
        · rw [hji]; exact hpi
        · exact h3 j (by omega)
      · simp only [go_sem, Nat.reduceEqDiff, Nat.reduceAdd, Nat.reduceLeDiff, hti]
      · simp only [go_sem, Nat.reduceEqDiff, Nat.reduceAdd, Nat.reduceLeDiff, htn]
  · rintro fr σ ⟨h0, h1, h3⟩
    try simp only [if_true]
    (repeat' first
    | refine w_seq ?_ | refine w_rg ?_ | refine wo_nil ?_ | refine g_skU ?_ | refine g_skT ?_ | refine g_skF ?_
    | ((first | apply s_plain | apply s_void | apply s_guard | apply g_goT | apply g_goF); · simp only [go_sem, Nat.reduceEqDiff, Nat.reduceAdd, Nat.reduceLeDiff]; (first | done | rfl))
    | ((first | apply g_T | apply g_F | apply g_gT | apply g_gF); · intro q1_; (first | intro q2_ | have q2_ := q1_); simp only [go_sem, Nat.reduceEqDiff, Nat.reduceAdd, Nat.reduceLeDiff, q1_, q2_]; (first | done | rfl))
    | (apply w_condX; · simp only [go_sem, Nat.reduceEqDiff, Nat.reduceAdd, Nat.reduceLeDiff]; (first | done | rfl)); (first | refine wcd_T ?_ | refine wcd_F ?_)
    | refine w_skip ?_ | refine w_exit ?_ | refine w_ret ?_
    | fail
    )
    exact ⟨.inr rfl, by simp only [go_sem, Nat.reduceEqDiff, Nat.reduceAdd, Nat.reduceLeDiff, retOf, resOf, found_none h3]⟩
  · refine ⟨?_, ?_, fun j hj => by omega⟩ <;> simp only [go_sem, Nat.reduceEqDiff, Nat.reduceAdd, Nat.reduceLeDiff]
  · simp only [go_sem, Nat.reduceEqDiff, Nat.reduceAdd, Nat.reduceLeDiff]
  · simp only [go_sem, Nat.reduceEqDiff, Nat.reduceAdd, Nat.reduceLeDiff, hll]
def keepL (l : List Lab) (ns : List ByteArray) : List Lab := l.filter fun m => hasN ns m.1
end

section
variable {env : Nat → Option Def} {fr : Fr} {σ σ' σ'' : St} {K : Fr → St → Prop} {Q : X → Fr → St → Prop} {p : PV} {bs : List UInt8}
/-! ### rows that nobody writes -/
def SubS (σ σ' : St) : Prop := ∀ o g x, o < 2000000 → σ.m o g = some x → ∃ x', σ'.m o g = some x' ∧ x'.es = x.es ∧ x'.xs = x.xs
theorem SubS.refl (σ : St) : SubS σ σ := fun _ _ x _ h => ⟨x, h, rfl, rfl⟩
theorem SubS.trans (h : SubS σ σ') (h' : SubS σ' σ'') : SubS σ σ'' := fun o g x ho hx =>
  let ⟨y, h1, h2, h3⟩ := h o g x ho hx
  let ⟨z, h4, h5, h6⟩ := h' o g y ho h1
  ⟨z, h4, h5.trans h2, h6.trans h3⟩
theorem SubS.box (h : SubS σ σ') {o g : Nat} (ho : 2000000 ≤ o) (y : Option Obj) : SubS σ (σ'.put o g y) := fun o' g' x ho' hx => by
  obtain ⟨z, h1, h2⟩ := h o' g' x ho' hx
  refine ⟨z, ?_, h2⟩
  simp only [put_m]
  rw [if_neg (by omega)]
  exact h1
theorem SubS.new (h : SubS σ σ') (hF : Fresh σ') (s : Nat) (y : Obj) : SubS σ (σ'.new s y) := fun o' g' x ho' hx => by
  obtain ⟨z, h1, h2⟩ := h o' g' x ho' hx
  refine ⟨z, ?_, h2⟩
  simp only [new_m]
  rw [if_neg]
  · exact h1
  · rintro ⟨rfl, rfl⟩
    rw [hF.none] at h1; cases h1
theorem SubS.same (h : SubS σ σ') {o g : Nat} {x y : Obj} (hx : σ'.m o g = some x) (h1 : y.es = x.es) (h2 : y.xs = x.xs) : SubS σ (σ'.put o g (some y)) := fun o' g' z ho' hz => by
  obtain ⟨u, q1, q2, q3⟩ := h o' g' z ho' hz
  simp only [put_m]
  by_cases hq : o' = o ∧ g' = g
  · obtain ⟨rfl, rfl⟩ := hq
    rw [hx] at q1
    simp only [Option.some.injEq] at q1
    subst q1
    exact ⟨y, by simp, h1.trans q2, h2.trans q3⟩
  · exact ⟨u, by rw [if_neg hq]; exact q1, q2, q3⟩
theorem Fresh.put (h : Fresh σ) {o g : Nat} {x : Obj} (hx : σ.m o g = some x) (y : Option Obj) : Fresh (σ.put o g y) := by
  intro o' g' hs
  simp only [put_m, put_c] at hs ⊢
  split at hs
  · rename_i hq
    obtain ⟨rfl, rfl⟩ := hq
    exact h o' g' (by rw [hx]; rfl)
  · exact h o' g' hs
theorem Fresh.nil : Fresh St.nil := fun _ _ h => by cases h
/-! ### a strings.Builder -/
def bytesOf (bs : List UInt8) : List PV := bs.map fun b => .sc (.int .u8 b.toNat)
def Buf (σ : St) (p : PV) (bs : List UInt8) : Prop := (p = .sc (.slice none 0 0) ∧ bs = []) ∨ ∃ g wr, p = .ob bufAt g 1 0 bs.length ∧ σ.m bufAt g = some ⟨1, bytesOf bs, true, wr⟩ ∧ bs ≠ []
def Bld (σ : St) (g : Nat) (bs : List UInt8) : Prop := ∃ a p, σ.m bldAt g = some ⟨2, [.agg [a, p]], true, true⟩ ∧ (a = .sc (.pointer none) ∨ a = .bx bldAt g 2 0 0) ∧ Buf σ p bs
structure Stays (σ σ' : St) : Prop where
  m : ∀ o g x, o ≠ bldAt → o ≠ bufAt → σ.m o g = some x → σ'.m o g = some x
  c : ∀ o, σ.c o ≤ σ'.c o
  s : SubS σ σ'
  f : Fresh σ'
theorem Stays.trans {σ1 σ2 σ3 : St} (h : Stays σ1 σ2) (h' : Stays σ2 σ3) : Stays σ1 σ3 :=
  ⟨fun o g x a b e => h'.m o g x a b (h.m o g x a b e), fun o => Nat.le_trans (h.c o) (h'.c o), h.s.trans h'.s, h'.f⟩
theorem Stays.refl (h : Fresh σ) : Stays σ σ := ⟨fun _ _ _ _ _ h => h, fun _ => Nat.le_refl _, SubS.refl σ, h⟩
theorem new_c_le (σ : St) (s : Nat) (y : Obj) (o : Nat) : σ.c o ≤ (σ.new s y).c o := by
  simp only [new_c]; split
  · rename_i h; subst h; omega
  · exact Nat.le_refl _
theorem Stays.new (h : Stays σ σ') (s : Nat) (y : Obj) : Stays σ (σ'.new s y) :=
  ⟨fun o g x a b e => (by
    have := h.m o g x a b e
    simp only [new_m]
    rw [if_neg]
    · exact this
    · rintro ⟨rfl, rfl⟩
      rw [h.f.none] at this
      cases this), fun o => Nat.le_trans (h.c o) (new_c_le _ _ _ _), h.s.new h.f _ _, h.f.new _ _⟩
theorem Stays.bld (h : Stays σ σ') {g : Nat} {x : Obj} (hm : σ'.m bldAt g = some x) (y : Obj) : Stays σ (σ'.put bldAt g (some y)) :=
  ⟨fun o g' x a b e => by simp only [put_m]; rw [if_neg (fun h => a h.1)]; exact h.m o g' x a b e, h.c, h.s.box (by unfold bldAt; omega) _, h.f.put hm _⟩
theorem Buf.bld (h : Buf σ p bs) (g : Nat) (y : Option Obj) : Buf (σ.put bldAt g y) p bs := by
  rcases h with h | ⟨g', wr, h1, h2, h3⟩
  · exact .inl h
  · exact .inr ⟨g', wr, h1, by simp only [put_m]; rw [if_neg (fun h => absurd h.1 (by decide))]; exact h2, h3⟩
theorem Buf.ok (h : Buf σ p bs) : cellsOf p = [p] ∧ okc p = true := by
  rcases h with ⟨rfl, _⟩ | ⟨g', wr, rfl, _, _⟩ <;> exact ⟨rfl, rfl⟩
theorem Bld.new {g : Nat} (h : Bld σ g bs) (hF : Fresh σ) (s : Nat) (y : Obj) : Bld (σ.new s y) g bs := by
  obtain ⟨a, p, hm, ha, hb⟩ := h
  have key : ∀ o g x, σ.m o g = some x → (σ.new s y).m o g = some x := fun o g x h => by
    simp only [new_m]
    rw [if_neg]
    · exact h
    · rintro ⟨rfl, rfl⟩
      rw [hF.none] at h; cases h
  refine ⟨a, p, key _ _ _ hm, ha, ?_⟩
  rcases hb with h | ⟨g', wr, h1, h2, h3⟩
  · exact .inl h
  · exact .inr ⟨g', wr, h1, key _ _ _ h2, h3⟩
theorem Bld.put {g o k : Nat} (h : Bld σ g bs) (h1 : o ≠ bldAt) (h2 : o ≠ bufAt) (y : Option Obj) : Bld (σ.put o k y) g bs := by
  obtain ⟨a, p, hm, ha, hb⟩ := h
  refine ⟨a, p, by simp only [put_m]; rw [if_neg (fun h => h1 h.1.symm)]; exact hm, ha, ?_⟩
  rcases hb with h | ⟨g', wr, q1, q2, q3⟩
  · exact .inl h
  · exact .inr ⟨g', wr, q1, by simp only [put_m]; rw [if_neg (fun h => h2 h.1.symm)]; exact q2, q3⟩
end

theorem ba_data (a : Array UInt8) : (⟨a⟩ : ByteArray).data = a := rfl
theorem ba_size (l : List UInt8) : (⟨l.toArray⟩ : ByteArray).size = l.length := by simp [ByteArray.size]
theorem ba_toList (l : List UInt8) : (⟨l.toArray⟩ : ByteArray).toList = l := by rw [ByteArray.toList_eq]
theorem ba_extract (l : List UInt8) (a b : Nat) : (⟨l.toArray⟩ : ByteArray).extract a b = ⟨((l.take b).drop a).toArray⟩ := by
  apply ByteArray.ext
  rw [ByteArray.data_extract]
  apply Array.ext'
  simp [List.drop_take]
theorem ba_append (a b : List UInt8) : (⟨a.toArray⟩ : ByteArray) ++ ⟨b.toArray⟩ = ⟨(a ++ b).toArray⟩ := by
  apply ByteArray.ext
  rw [ByteArray.data_append]
  simp
section
variable {env : Nat → Option Def} {fr : Fr} {σ σ' σ'' : St} {K : Fr → St → Prop} {Q : X → Fr → St → Prop} {p : PV} {bs : List UInt8}
def cutPre (s t : List UInt8) : List UInt8 := if t.isPrefixOf s then s.drop t.length else s
end

def scan : List UInt8 → List UInt8 → Option (List UInt8 × List UInt8)
  | [], _ => none
  | [c], acc => if c = 34 then some (acc, []) else none
  | c :: d :: r, acc => if c = 34 then some (acc, d :: r) else if c = 92 then scan r (acc ++ [d]) else scan (d :: r) (acc ++ [c])
def oneL (s : List UInt8) : Option (List UInt8 × List UInt8 × List UInt8) :=
  if (Lib.cut s [61, 34]).2.2 then (scan (Lib.cut s [61, 34]).2.1 []).map fun q => ((Lib.cut s [61, 34]).1, q.1, q.2) else none
section
variable {env : Nat → Option Def} {fr : Fr} {σ σ' σ'' : St} {K : Fr → St → Prop} {Q : X → Fr → St → Prop} {p : PV} {bs : List UInt8}
end

section
def mkLab (n v : List UInt8) : Lab := (⟨n.toArray⟩, ⟨v.toArray⟩)
def pl : Nat → List UInt8 → List Lab → Option (List Lab)
  | 0, _, out => some out
  | k + 1, rest, out => if rest = [125] then some out else if out ≠ [] ∧ [44].isPrefixOf rest = false then none else
      (oneL (if out = [] then rest else cutPre rest [44])).bind fun q => pl k q.2.2 (out ++ [mkLab q.1 q.2.1])
end

end
section
structure RightR (r : Rule) : Prop where
  how : 1 ≤ r.how ∧ r.how ≤ 5
  limit : -1099511627776 ≤ r.limit ∧ r.limit ≤ 1099511627776
  for_ : -1099511627776 ≤ r.for_ ∧ r.for_ ≤ 1099511627776
  keep : -1099511627776 ≤ r.keep ∧ r.keep ≤ 1099511627776
  tries : -1099511627776 ≤ r.tries ∧ r.tries ≤ 1099511627776
  labels : rightL r.labels = true

end
section
attribute [local go_sem ↓] e_mv e_pick e_bin e_eqs e_beq e_un e_cvi e_str e_s2b e_b2s e_box e_build e_bsl e_ld e_st e_nck e_mkf e_slcS e_slcL e_fa e_fld e_ia e_iaa e_ix e_ixa e_ext e_lenS e_lenL e_mnmx e_app e_appb e_bbx e_msl e_clr e_call e_callv e_icall e_slcA e_mkm e_mput e_mget e_mlen e_mdel pa_t pa_c pa_f slcSP_str hiOf_some hiOf_none loOf_some loOf_none set_eq set_ne
attribute [local go_sem] pv pv1 simple frOf_0 frOf_1 frOf_2 frOf_3 frOf_4 frOf_5 ne_eq not_false_eq_true if_true Bool.false_eq_true if_false pbin punary Option.map_some Option.bind_some pick_and pick_or opt_true Bool.true_and Bool.and_self Bool.and_true Bool.true_or Bool.false_or Bool.not_true Bool.not_false callE pcall_eq List.map_cons List.map_nil List.append_nil List.nil_append List.cons_append mapM_cons' mapM_nil' dep_eq fz_sc fz_sl fz_em fz_fn fz_fp fz_agg fz_tu fz_bx fz_ob Nat.lt_irrefl Nat.zero_lt_one Nat.lt_add_one flat clL cl Bool.or_true okc_sc okc_em okc_sl okc_ob okc_bx okc_fp okc_fn okc_agg okc_ifc cells_agg cells_sc cells_sl cells_em cells_ob cells_fn cells_bx cells_fp List.length_cons List.length_nil Nat.zero_add and_self true_and and_true new_m new_c put_m put_c nil_m nil_c nil_mm new_mm put_mm newM_m newM_c newM_mm putM_m putM_c putM_mm mkeyV_1 mkeyV_2 mapAt_eq deref List.getElem?_cons_zero List.getElem?_cons_succ List.drop_zero List.drop_succ_cons List.take_succ_cons List.take_zero Nat.le_refl false_and and_false decide_true decide_false lenP_em lenP_nil lenP_sl lenP_ob Int.ofNat_zero
section
variable {env : Nat → Option Def} {fr : Fr} {σ σ' σ'' : St} {K : Fr → St → Prop} {Q : X → Fr → St → Prop} {p : PV} {bs : List UInt8}
theorem ba_inj {a b : ByteArray} (h : a.toList = b.toList) : a = b := by
  rw [ByteArray.toList_eq, ByteArray.toList_eq] at h
  exact ByteArray.ext (Array.toList_inj.1 h)
theorem ba_beq (a b : ByteArray) : (a.toList == b.toList) = decide (a = b) := by
  rw [Bool.eq_iff_iff, beq_iff_eq, decide_eq_true_iff]
  exact ⟨ba_inj, fun h => by rw [h]⟩
end

end
section
structure Mt where
  n : ByteArray
  how : Int
  ws : List ByteArray
  deriving DecidableEq
def mt (m : Mt) : PV := .agg [.sc (.string m.n), .sc (.int .i64 m.how), .sl (strs m.ws)]
def mts (l : List Mt) : List PV := l.map mt
structure Rh where
  recv : ByteArray
  ms : List Mt
  bys : List ByteArray
  wait : Int
  every : Int
  rep : Int
  mute : List ByteArray
  on : Bool
  deriving DecidableEq
inductive Rt where
  | mk (h : Rh) (ks : List Rt)
def Rt.h : Rt → Rh
  | .mk h _ => h
def Rt.ks : Rt → List Rt
  | .mk _ ks => ks
def rhd (h : Rh) (k : PV) : PV := .agg [.sc (.string h.recv), .sl (mts h.ms), .sl (strs h.bys), .sc (.int .i64 h.wait), .sc (.int .i64 h.every), .sc (.int .i64 h.rep), .sl (strs h.mute), .sc (.bool h.on), k]
mutual
def rt : Rt → PV
  | .mk h ks => rhd h (.sl (rts ks))
def rts : List Rt → List PV
  | [] => []
  | r :: l => rt r :: rts l
end
/-! what is held in memory -/
structure Mt.Held (m : Mt) : Prop where
  n : Small m.n
  ws : m.ws.length ≤ 9223372036854775807
  wss : ∀ w ∈ m.ws, Small w
structure Rh.Held (h : Rh) : Prop where
  recv : Small h.recv
  ms : h.ms.length ≤ 9223372036854775807
  mss : ∀ m ∈ h.ms, m.Held
  bys : h.bys.length ≤ 9223372036854775807
  byss : ∀ w ∈ h.bys, Small w
  mute : h.mute.length ≤ 9223372036854775807
  mutes : ∀ w ∈ h.mute, Small w
inductive Rt.Held : Rt → Prop
  | mk (h : Rh) (ks : List Rt) : h.Held → ks.length ≤ 9223372036854775807 → (∀ k ∈ ks, Rt.Held k) → Rt.Held (.mk h ks)
/-! counting -/
/-! what is the same -/
/-! which may be -/
/-! where labels lead -/
/-! all of them -/

end
section
attribute [local go_sem ↓] e_mv e_pick e_bin e_eqs e_beq e_un e_cvi e_str e_s2b e_b2s e_box e_build e_bsl e_ld e_st e_nck e_mkf e_slcS e_slcL e_fa e_fld e_ia e_iaa e_ix e_ixa e_ext e_lenS e_lenL e_mnmx e_app e_appb e_bbx e_msl e_clr e_call e_callv e_icall e_slcA e_mkm e_mput e_mget e_mlen e_mdel pa_t pa_c pa_f slcSP_str hiOf_some hiOf_none loOf_some loOf_none set_eq set_ne
attribute [local go_sem] pv pv1 simple frOf_0 frOf_1 frOf_2 frOf_3 frOf_4 frOf_5 ne_eq not_false_eq_true if_true Bool.false_eq_true if_false pbin punary Option.map_some Option.bind_some pick_and pick_or opt_true Bool.true_and Bool.and_self Bool.and_true Bool.true_or Bool.false_or Bool.not_true Bool.not_false callE pcall_eq List.map_cons List.map_nil List.append_nil List.nil_append List.cons_append mapM_cons' mapM_nil' dep_eq fz_sc fz_sl fz_em fz_fn fz_fp fz_agg fz_tu fz_bx fz_ob Nat.lt_irrefl Nat.zero_lt_one Nat.lt_add_one flat clL cl Bool.or_true okc_sc okc_em okc_sl okc_ob okc_bx okc_fp okc_fn okc_agg okc_ifc cells_agg cells_sc cells_sl cells_em cells_ob cells_fn cells_bx cells_fp List.length_cons List.length_nil Nat.zero_add and_self true_and and_true new_m new_c put_m put_c nil_m nil_c nil_mm new_mm put_mm newM_m newM_c newM_mm putM_m putM_c putM_mm mkeyV_1 mkeyV_2 mapAt_eq deref List.getElem?_cons_zero List.getElem?_cons_succ List.drop_zero List.drop_succ_cons List.take_succ_cons List.take_zero Nat.le_refl false_and and_false decide_true decide_false lenP_em lenP_nil lenP_sl lenP_ob Int.ofNat_zero splice fillP fillE List.modify_zero_cons List.replicate_succ List.replicate_zero List.set_cons_zero List.drop_zero ba_data ba_size ba_toList ba_extract ba_append List.toList_toArray
def d307 : Def := (.code 2 [.tmp 4] (.seq (.rg false [⟨.some 4, .none, .mv (.c (.bool false))⟩]) (.seq (.rg false [⟨.some 5, .none, .mv (.t 0)⟩, ⟨.some 6, .none, .mv (.t 1)⟩, ⟨.some 7, .none, .call 322 .pure [.t 5, .t 6]⟩, ⟨.some 8, .none, .bin .geq (.t 7) (.c (.int .i64 0))⟩, ⟨.some 4, .none, .mv (.t 8)⟩]) .ret)))
def d322 : Def := (.code 2 [.tmp 4] (.seq (.rg false [⟨.some 4, .none, .mv (.c (.int .i64 0))⟩]) (.seq (.seq (.rg false [⟨.some 6, .none, .mv (.t 0)⟩, ⟨.some 7, .none, .lenL (.t 6)⟩, ⟨.some 8, .none, .mv (.c (.int .i64 0))⟩]) (.block 0 (.loop (.seq (.rg false [⟨.some 9, .none, .bin .lss (.t 8) (.t 7)⟩]) (.seq (.cond (.t 9) .skip (.exit 0)) (.seq (.block 1 (.seq (.rg false [⟨.some 10, .none, .mv (.t 8)⟩, ⟨.some 5, .none, .mv (.t 10)⟩]) (.seq (.rg false [⟨.some 11, .none, .mv (.t 1)⟩, ⟨.some 12, .none, .mv (.t 0)⟩, ⟨.some 13, .none, .mv (.t 5)⟩, ⟨.some 14, .none, .ia 3 (.t 12) (.t 13)⟩, ⟨.some 15, .none, .ld (.some 3) (.t 14)⟩, ⟨.some 16, .none, .callv (.t 11) .pure [.t 15]⟩]) (.cond (.t 16) (.seq (.rg false [⟨.some 17, .none, .mv (.t 5)⟩, ⟨.some 4, .none, .mv (.t 17)⟩]) .ret) .skip)))) (.rg false [⟨.some 18, .none, .bin .add (.t 8) (.c (.int .i64 1))⟩, ⟨.some 8, .none, .mv (.t 18)⟩]))))))) (.seq (.rg false [⟨.some 4, .none, .mv (.c (.int .i64 (-1)))⟩]) .ret))))
def d320 : Def := (.code 1 [.tmp 2] (.seq (.rg false [⟨.some 2, .none, .mv (.c (.bool false))⟩]) (.seq (.rg false [⟨.some 3, .none, .mv (.t 0)⟩, ⟨.some 4, .none, .lenS (.t 3)⟩, ⟨.some 5, .none, .bin .leq (.t 4) (.c (.int .i64 64))⟩, ⟨.some 6, .none, .mv (.t 5)⟩, ⟨.some 7, .some (6, true), .mv (.t 0)⟩, ⟨.some 8, .some (6, true), .s2b (.t 7)⟩, ⟨.some 9, .some (6, true), .call 67 .pure [.t 8, .f 327]⟩, ⟨.some 10, .some (6, true), .un .not (.t 9)⟩, ⟨.some 11, .none, .pick (.t 6) (.t 10) (.c (.bool false))⟩, ⟨.some 2, .none, .mv (.t 11)⟩]) .ret)))
def d327 : Def := (.code 1 [.tmp 2] (.seq (.rg false [⟨.some 2, .none, .mv (.c (.bool false))⟩]) (.seq (.rg false [⟨.some 3, .none, .mv (.t 0)⟩, ⟨.some 4, .none, .call 328 .pure [.t 3]⟩, ⟨.some 5, .none, .un .not (.t 4)⟩, ⟨.some 2, .none, .mv (.t 5)⟩]) .ret)))
def d328 : Def := (.code 1 [.tmp 2] (.seq (.rg false [⟨.some 2, .none, .mv (.c (.bool false))⟩]) (.seq (.rg false [⟨.some 3, .none, .mv (.t 0)⟩, ⟨.some 4, .none, .bin .geq (.t 3) (.c (.int .u8 97))⟩, ⟨.some 5, .none, .mv (.t 4)⟩, ⟨.some 6, .some (5, true), .mv (.t 0)⟩, ⟨.some 7, .some (5, true), .bin .leq (.t 6) (.c (.int .u8 122))⟩, ⟨.some 8, .none, .pick (.t 5) (.t 7) (.c (.bool false))⟩, ⟨.some 9, .none, .mv (.t 8)⟩, ⟨.some 10, .some (9, false), .mv (.t 0)⟩, ⟨.some 11, .some (9, false), .bin .geq (.t 10) (.c (.int .u8 65))⟩, ⟨.some 12, .some (9, false), .mv (.t 11)⟩, ⟨.some 13, .some (12, true), .mv (.t 0)⟩, ⟨.some 14, .some (12, true), .bin .leq (.t 13) (.c (.int .u8 90))⟩, ⟨.some 15, .some (9, false), .pick (.t 12) (.t 14) (.c (.bool false))⟩, ⟨.some 16, .none, .pick (.t 9) (.c (.bool true)) (.t 15)⟩, ⟨.some 17, .none, .mv (.t 16)⟩, ⟨.some 18, .some (17, false), .mv (.t 0)⟩, ⟨.some 19, .some (17, false), .bin .geq (.t 18) (.c (.int .u8 48))⟩, ⟨.some 20, .some (17, false), .mv (.t 19)⟩, ⟨.some 21, .some (20, true), .mv (.t 0)⟩, ⟨.some 22, .some (20, true), .bin .leq (.t 21) (.c (.int .u8 57))⟩, ⟨.some 23, .some (17, false), .pick (.t 20) (.t 22) (.c (.bool false))⟩, ⟨.some 24, .none, .pick (.t 17) (.c (.bool true)) (.t 23)⟩, ⟨.some 25, .none, .mv (.t 24)⟩, ⟨.some 26, .some (25, false), .mv (.t 0)⟩, ⟨.some 27, .some (25, false), .call 98 .pure [.c (.string ⟨#[95, 45, 46, 47, 58]⟩), .t 26]⟩, ⟨.some 28, .some (25, false), .bin .geq (.t 27) (.c (.int .i64 0))⟩, ⟨.some 29, .none, .pick (.t 25) (.c (.bool true)) (.t 28)⟩, ⟨.some 2, .none, .mv (.t 29)⟩]) .ret)))
def d321 : Def := (.code 0 [.tmp 0] (.seq (.rg false [⟨.some 0, .none, .mv (.c (.map .none))⟩]) (.seq (.rg false [⟨.some 1, .none, .mkm⟩, ⟨.none, .none, .mput 1 (.t 1) (.c (.int .i64 1)) (.c (.string ⟨#[61]⟩))⟩, ⟨.none, .none, .mput 1 (.t 1) (.c (.int .i64 2)) (.c (.string ⟨#[33, 61]⟩))⟩, ⟨.none, .none, .mput 1 (.t 1) (.c (.int .i64 3)) (.c (.string ⟨#[61, 126]⟩))⟩, ⟨.none, .none, .mput 1 (.t 1) (.c (.int .i64 4)) (.c (.string ⟨#[33, 126]⟩))⟩, ⟨.some 2, .none, .mv (.t 1)⟩, ⟨.some 0, .none, .mv (.t 2)⟩]) .ret)))
def d306 : Def := (.code 1 [.tmp 2] (.seq (.rg false [⟨.some 1, .none, .box (.t 0)⟩, ⟨.some 2, .none, .mv (.c (.bool false))⟩]) (.seq (.rg false [⟨.some 3, .none, .mv (.c (.int .i64 1))⟩]) (.seq (.seq (.rg false [⟨.some 8, .none, .fa 1 (.t 1)⟩, ⟨.some 9, .none, .ld .none (.t 8)⟩, ⟨.some 10, .none, .bin .gtr (.t 9) (.c (.int .i64 2))⟩]) (.cond (.t 10) (.rg false [⟨.some 3, .none, .mv (.c (.int .i64 8))⟩]) .skip)) (.seq (.seq (.rg false [⟨.some 11, .none, .fa 2 (.t 1)⟩, ⟨.some 12, .none, .ld .none (.t 11)⟩, ⟨.some 13, .none, .lenL (.t 12)⟩, ⟨.some 14, .none, .mv (.c (.int .i64 0))⟩]) (.block 0 (.loop (.seq (.rg false [⟨.some 15, .none, .bin .lss (.t 14) (.t 13)⟩]) (.seq (.cond (.t 15) .skip (.exit 0)) (.seq (.block 1 (.seq (.rg false [⟨.some 16, .none, .mv (.t 14)⟩, ⟨.some 17, .none, .ia 1 (.t 12) (.t 14)⟩, ⟨.some 18, .none, .ld .none (.t 17)⟩, ⟨.some 4, .none, .mv (.t 16)⟩, ⟨.some 5, .none, .mv (.t 18)⟩]) (.seq (.rg false [⟨.some 19, .none, .mv (.t 5)⟩, ⟨.some 20, .none, .call 320 .pure [.t 19]⟩, ⟨.some 21, .none, .un .not (.t 20)⟩, ⟨.some 22, .none, .mv (.t 21)⟩, ⟨.some 23, .some (22, false), .mv (.t 4)⟩, ⟨.some 24, .some (22, false), .bin .gtr (.t 23) (.c (.int .i64 0))⟩, ⟨.some 25, .some (22, false), .mv (.t 24)⟩, ⟨.some 26, .some (25, true), .fa 2 (.t 1)⟩, ⟨.some 27, .some (25, true), .ld .none (.t 26)⟩, ⟨.some 28, .some (25, true), .mv (.t 4)⟩, ⟨.some 29, .some (25, true), .bin .sub (.t 28) (.c (.int .i64 1))⟩, ⟨.some 30, .some (25, true), .ia 1 (.t 27) (.t 29)⟩, ⟨.some 31, .some (25, true), .ld .none (.t 30)⟩, ⟨.some 32, .some (25, true), .mv (.t 5)⟩, ⟨.some 33, .some (25, true), .bin .geq (.t 31) (.t 32)⟩, ⟨.some 34, .some (22, false), .pick (.t 25) (.t 33) (.c (.bool false))⟩, ⟨.some 35, .none, .pick (.t 22) (.c (.bool true)) (.t 34)⟩]) (.cond (.t 35) (.seq (.rg false [⟨.some 2, .none, .mv (.c (.bool false))⟩]) .ret) .skip)))) (.rg false [⟨.some 36, .none, .bin .add (.t 14) (.c (.int .i64 1))⟩, ⟨.some 14, .none, .mv (.t 36)⟩]))))))) (.seq (.rg2 [⟨.some 39, .none, .fa 1 (.t 1)⟩, ⟨.some 40, .none, .ld .none (.t 39)⟩, ⟨.some 38, .none, .call 321 .opn []⟩, ⟨.some 41, .none, .mget 1 (.string ⟨#[]⟩) true (.t 38) (.t 40)⟩, ⟨.some 37, .none, .mv (.t 41)⟩, ⟨.some 42, .none, .ext (.t 37) 0⟩, ⟨.some 43, .none, .ext (.t 37) 1⟩, ⟨.some 6, .none, .mv (.t 42)⟩, ⟨.some 7, .none, .mv (.t 43)⟩] [⟨.some 39, .none, .fa 1 (.t 1)⟩, ⟨.some 38, .none, .call 321 .opn []⟩, ⟨.some 40, .none, .ld .none (.t 39)⟩, ⟨.some 41, .none, .mget 1 (.string ⟨#[]⟩) true (.t 38) (.t 40)⟩, ⟨.some 37, .none, .mv (.t 41)⟩, ⟨.some 42, .none, .ext (.t 37) 0⟩, ⟨.some 43, .none, .ext (.t 37) 1⟩, ⟨.some 6, .none, .mv (.t 42)⟩, ⟨.some 7, .none, .mv (.t 43)⟩]) (.seq (.rg false [⟨.some 44, .none, .mv (.t 7)⟩, ⟨.some 45, .none, .mv (.t 44)⟩, ⟨.some 46, .some (45, true), .fa 0 (.t 1)⟩, ⟨.some 47, .some (45, true), .ld .none (.t 46)⟩, ⟨.some 48, .some (45, true), .build (.agg #[.string ⟨#[]⟩, .string ⟨#[]⟩]) [(0, (1, .t 47)), (1, (1, .c (.string ⟨#[120]⟩)))]⟩, ⟨.some 49, .some (45, true), .bsl 2 (.agg #[.string ⟨#[]⟩, .string ⟨#[]⟩]) 1 [(0, .t 48)]⟩, ⟨.some 50, .some (45, true), .call 113 .pure [.t 49]⟩, ⟨.some 51, .none, .pick (.t 45) (.t 50) (.c (.bool false))⟩, ⟨.some 52, .none, .mv (.t 51)⟩, ⟨.some 53, .some (52, true), .fa 2 (.t 1)⟩, ⟨.some 54, .some (52, true), .ld .none (.t 53)⟩, ⟨.some 55, .some (52, true), .lenL (.t 54)⟩, ⟨.some 56, .some (52, true), .bin .geq (.t 55) (.c (.int .i64 1))⟩, ⟨.some 57, .none, .pick (.t 52) (.t 56) (.c (.bool false))⟩, ⟨.some 58, .none, .mv (.t 57)⟩, ⟨.some 59, .some (58, true), .fa 2 (.t 1)⟩, ⟨.some 60, .some (58, true), .ld .none (.t 59)⟩, ⟨.some 61, .some (58, true), .lenL (.t 60)⟩, ⟨.some 62, .some (58, true), .mv (.t 3)⟩, ⟨.some 63, .some (58, true), .bin .leq (.t 61) (.t 62)⟩, ⟨.some 64, .none, .pick (.t 58) (.t 63) (.c (.bool false))⟩, ⟨.some 2, .none, .mv (.t 64)⟩]) .ret)))))))
def d305 : Def := (.code 1 [.tmp 2] (.seq (.rg false [⟨.some 1, .none, .box (.t 0)⟩, ⟨.some 2, .none, .mv (.c (.bool false))⟩]) (.seq (.rg false [⟨.some 3, .none, .ld (.some 3) (.t 1)⟩, ⟨.some 4, .none, .call 306 .pure [.t 3]⟩, ⟨.some 5, .none, .un .not (.t 4)⟩, ⟨.some 2, .none, .mv (.t 5)⟩]) .ret)))
def d308 : Def := (.code 2 [.tmp 3] (.seq (.rg false [⟨.some 2, .none, .box (.t 0)⟩, ⟨.some 3, .none, .mv (.c (.bool false))⟩]) (.seq (.rg true [⟨.some 5, .none, .fa 2 (.t 2)⟩, ⟨.some 6, .none, .ld .none (.t 5)⟩, ⟨.some 7, .none, .ld .none (.t 1)⟩, ⟨.some 8, .none, .fa 0 (.t 2)⟩, ⟨.some 9, .none, .ld .none (.t 8)⟩, ⟨.some 10, .none, .call 114 .strict [.t 7, .t 9]⟩, ⟨.some 11, .none, .call 50 .strict [.t 6, .t 10]⟩, ⟨.some 4, .none, .mv (.t 11)⟩]) (.seq (.rg false [⟨.some 12, .none, .mv (.t 4)⟩, ⟨.some 13, .none, .fa 1 (.t 2)⟩, ⟨.some 14, .none, .ld .none (.t 13)⟩, ⟨.some 15, .none, .bin .eql (.t 14) (.c (.int .i64 2))⟩, ⟨.some 16, .none, .mv (.t 15)⟩, ⟨.some 17, .some (16, false), .fa 1 (.t 2)⟩, ⟨.some 18, .some (16, false), .ld .none (.t 17)⟩, ⟨.some 19, .some (16, false), .bin .eql (.t 18) (.c (.int .i64 4))⟩, ⟨.some 20, .none, .pick (.t 16) (.c (.bool true)) (.t 19)⟩, ⟨.some 21, .none, .beq false (.t 12) (.t 20)⟩, ⟨.some 3, .none, .mv (.t 21)⟩]) .ret))))
def d299 : Def := (.code 2 [.tmp 4, .tmp 5] (.seq (.rg false [⟨.some 2, .none, .box (.t 0)⟩, ⟨.some 4, .none, .mv (.c (.bool false))⟩, ⟨.some 5, .none, .mv (.c (.int .i64 0))⟩]) (.seq (.rg false [⟨.some 6, .none, .mv (.f 305)⟩]) (.seq (.seq (.rg false [⟨.some 8, .none, .ld .none (.t 2)⟩, ⟨.some 9, .none, .call 113 .pure [.t 8]⟩, ⟨.some 10, .none, .un .not (.t 9)⟩, ⟨.some 11, .none, .mv (.t 10)⟩, ⟨.some 12, .some (11, false), .mv (.t 1)⟩, ⟨.some 13, .some (11, false), .mv (.t 6)⟩, ⟨.some 14, .some (11, false), .call 307 .pure [.t 12, .t 13]⟩, ⟨.some 15, .none, .pick (.t 11) (.c (.bool true)) (.t 14)⟩]) (.cond (.t 15) (.seq (.rg false [⟨.some 4, .none, .mv (.c (.bool false))⟩, ⟨.some 5, .none, .mv (.c (.int .i64 1))⟩]) .ret) .skip)) (.seq (.rg false [⟨.some 16, .none, .mkf 308 [] [.t 2]⟩, ⟨.some 7, .none, .mv (.t 16)⟩]) (.seq (.rg false [⟨.some 17, .none, .mv (.t 1)⟩, ⟨.some 18, .none, .mv (.t 7)⟩, ⟨.some 19, .none, .call 307 .pure [.t 17, .t 18]⟩, ⟨.some 20, .none, .un .not (.t 19)⟩, ⟨.some 4, .none, .mv (.t 20)⟩, ⟨.some 5, .none, .mv (.c (.int .i64 0))⟩]) .ret))))))
def lka : List (Nat × Def) := [(98, .prim (pureF ixbF)), (328, d328), (327, d327), (320, d320), (321, d321), (306, d306), (305, d305), (308, d308), (299, d299), (307, d307), (322, d322)]
structure Mm4 (env : Nat → Option Def) : Prop where
  w : Has law env
  f : Has lf0 env
  l : Has la0 env
  c : Has lc env
  x : Has lx0 env
  a : Has lka env
def dIF (es : Nat) : Def := (.code 2 [.tmp 4] (.seq (.rg false [⟨.some 4, .none, .mv (.c (.int .i64 0))⟩]) (.seq (.seq (.rg false [⟨.some 6, .none, .mv (.t 0)⟩, ⟨.some 7, .none, .lenL (.t 6)⟩, ⟨.some 8, .none, .mv (.c (.int .i64 0))⟩]) (.block 0 (.loop (.seq (.rg false [⟨.some 9, .none, .bin .lss (.t 8) (.t 7)⟩]) (.seq (.cond (.t 9) .skip (.exit 0)) (.seq (.block 1 (.seq (.rg false [⟨.some 10, .none, .mv (.t 8)⟩, ⟨.some 5, .none, .mv (.t 10)⟩]) (.seq (.rg false [⟨.some 11, .none, .mv (.t 1)⟩, ⟨.some 12, .none, .mv (.t 0)⟩, ⟨.some 13, .none, .mv (.t 5)⟩, ⟨.some 14, .none, .ia es (.t 12) (.t 13)⟩, ⟨.some 15, .none, .ld (.some es) (.t 14)⟩, ⟨.some 16, .none, .callv (.t 11) .pure [.t 15]⟩]) (.cond (.t 16) (.seq (.rg false [⟨.some 17, .none, .mv (.t 5)⟩, ⟨.some 4, .none, .mv (.t 17)⟩]) .ret) .skip)))) (.rg false [⟨.some 18, .none, .bin .add (.t 8) (.c (.int .i64 1))⟩, ⟨.some 8, .none, .mv (.t 18)⟩]))))))) (.seq (.rg false [⟨.some 4, .none, .mv (.c (.int .i64 (-1)))⟩]) .ret))))
section
variable {env : Nat → Option Def} {fr : Fr} {σ σ' σ'' : St} {K : Fr → St → Prop} {Q : X → Fr → St → Prop} {p : PV} {bs : List UInt8}
theorem idxS {k0 es : Nat} (hk0 : env k0 = some (dIF es)) {xs : List PV} {k : Nat} {a b : List PV} {p : Nat → Bool} (hn : xs.length ≤ 9223372036854775807) (h1 : ∀ (i : Nat) e, xs[i]? = some e → ∃ cs, e = .agg cs ∧ cs.length = es)
    (hz : ∀ (i : Nat) e, xs[i]? = some e → ∀ σ, (a ++ [e] ++ b).mapM (fz σ 12) = some (a ++ [e] ++ b)) (hp : ∀ (i : Nat) e, xs[i]? = some e → AV env k (a ++ [e] ++ b) = some (.sc (.bool (p i)))) :
    AV env k0 [.sl xs, .fn k a b] = some (.sc (.int .i64 (found p xs.length))) := by
  refine AV_wp hk0 rfl ?_
  (repeat' first
    | refine w_seq ?_ | refine w_rg ?_ | refine wo_nil ?_ | refine g_skU ?_ | refine g_skT ?_ | refine g_skF ?_
    | ((first | apply s_plain | apply s_void | apply s_guard | apply g_goT | apply g_goF); · simp only [go_sem, Nat.reduceEqDiff, Nat.reduceAdd, Nat.reduceLeDiff]; (first | done | rfl))
    | ((first | apply g_T | apply g_F | apply g_gT | apply g_gF); · intro q1_; (first | intro q2_ | have q2_ := q1_); simp only [go_sem, Nat.reduceEqDiff, Nat.reduceAdd, Nat.reduceLeDiff, q1_, q2_]; (first | done | rfl))
    | fail
    )
  refine w_block (w_range xs.length hn (fun i fr σ => fr 0 = .sl xs ∧ fr 1 = .fn k a b ∧ ∀ j, j < i → p j = false) (by decide) ?_ ?_ ?_ _ _ ?_ ?_ ?_)
  · rintro i fr σ v ⟨h0, h1, h2⟩
    refine ⟨⟨?_, ?_, h2⟩, ⟨?_, ?_, h2⟩, ⟨?_, ?_, h2⟩⟩ <;> simp only [go_sem, Nat.reduceEqDiff, Nat.reduceAdd, Nat.reduceLeDiff, h0, h1]
  · rintro i fr σ hi ⟨h0, h2, h3⟩ hti htn
    have hx := List.getElem?_eq_getElem hi
    obtain ⟨cs, hc, hcl⟩ := h1 i _ hx
    have hz' := hz i _ hx
    have hp' := hp i _ hx
    rw [hc] at hx hz' hp'
    have e1 : (0 : Int) ≤ (i : Int) ∧ (i : Int) < (xs.length : Int) := by omega
    have htk : cs.take es = cs := List.take_of_length_le (by omega)
    refine w_block ?_
    simp only [List.append_assoc, List.cons_append, List.nil_append] at hz' hp'
    (repeat' first
    | refine w_seq ?_ | refine w_rg ?_ | refine wo_nil ?_ | refine g_skU ?_ | refine g_skT ?_ | refine g_skF ?_
    | ((first | apply s_plain | apply s_void | apply s_guard | apply g_goT | apply g_goF); · simp only [go_sem, Nat.reduceEqDiff, Nat.reduceAdd, Nat.reduceLeDiff, h0, h2, hti, e1, Int.toNat_natCast, hx, List.append_assoc, hz', hp', hcl, htk]; (first | done | rfl))
    | ((first | apply g_T | apply g_F | apply g_gT | apply g_gF); · intro q1_; (first | intro q2_ | have q2_ := q1_); simp only [go_sem, Nat.reduceEqDiff, Nat.reduceAdd, Nat.reduceLeDiff, h0, h2, hti, e1, Int.toNat_natCast, hx, List.append_assoc, hz', hp', hcl, htk, q1_, q2_]; (first | done | rfl))
    | fail
    )
    cases hpi : p i with
    | true =>
      (repeat' first
    | refine w_seq ?_ | refine w_rg ?_ | refine wo_nil ?_ | refine g_skU ?_ | refine g_skT ?_ | refine g_skF ?_
    | ((first | apply s_plain | apply s_void | apply s_guard | apply g_goT | apply g_goF); · simp only [go_sem, Nat.reduceEqDiff, Nat.reduceAdd, Nat.reduceLeDiff]; (first | done | rfl))
    | ((first | apply g_T | apply g_F | apply g_gT | apply g_gF); · intro q1_; (first | intro q2_ | have q2_ := q1_); simp only [go_sem, Nat.reduceEqDiff, Nat.reduceAdd, Nat.reduceLeDiff, q1_, q2_]; (first | done | rfl))
    | (apply w_condX; · simp only [go_sem, Nat.reduceEqDiff, Nat.reduceAdd, Nat.reduceLeDiff]; (first | done | rfl)); (first | refine wcd_T ?_ | refine wcd_F ?_)
    | refine w_skip ?_ | refine w_exit ?_ | refine w_ret ?_
    | fail
    )
      exact ⟨.inr rfl, by simp only [go_sem, Nat.reduceEqDiff, Nat.reduceAdd, Nat.reduceLeDiff, retOf, resOf, found_hit hi h3 hpi]⟩
    | false =>
      (repeat' first
    | refine w_seq ?_ | refine w_rg ?_ | refine wo_nil ?_ | refine g_skU ?_ | refine g_skT ?_ | refine g_skF ?_
    | ((first | apply s_plain | apply s_void | apply s_guard | apply g_goT | apply g_goF); · simp only [go_sem, Nat.reduceEqDiff, Nat.reduceAdd, Nat.reduceLeDiff]; (first | done | rfl))
    | ((first | apply g_T | apply g_F | apply g_gT | apply g_gF); · intro q1_; (first | intro q2_ | have q2_ := q1_); simp only [go_sem, Nat.reduceEqDiff, Nat.reduceAdd, Nat.reduceLeDiff, q1_, q2_]; (first | done | rfl))
    | (apply w_condX; · simp only [go_sem, Nat.reduceEqDiff, Nat.reduceAdd, Nat.reduceLeDiff]; (first | done | rfl)); (first | refine wcd_T ?_ | refine wcd_F ?_)
    | refine w_skip ?_ | refine w_exit ?_ | refine w_ret ?_
    | fail
    )
      refine ⟨⟨?_, ?_, fun j hj => ?_⟩, ?_, ?_⟩
      · simp only [go_sem, Nat.reduceEqDiff, Nat.reduceAdd, Nat.reduceLeDiff, h0]
      · simp only [go_sem, Nat.reduceEqDiff, Nat.reduceAdd, Nat.reduceLeDiff, h2]
      · by_cases hji : j = i
        · rw [hji]; exact hpi
        · exact h3 j (by omega)
      · simp only [go_sem, Nat.reduceEqDiff, Nat.reduceAdd, Nat.reduceLeDiff, hti]
      · simp only [go_sem, Nat.reduceEqDiff, Nat.reduceAdd, Nat.reduceLeDiff, htn]
  · rintro fr σ ⟨h0, h2, h3⟩
    try simp only [if_true]
    (repeat' first
    | refine w_seq ?_ | refine w_rg ?_ | refine wo_nil ?_ | refine g_skU ?_ | refine g_skT ?_ | refine g_skF ?_
    | ((first | apply s_plain | apply s_void | apply s_guard | apply g_goT | apply g_goF); · simp only [go_sem, Nat.reduceEqDiff, Nat.reduceAdd, Nat.reduceLeDiff]; (first | done | rfl))
    | ((first | apply g_T | apply g_F | apply g_gT | apply g_gF); · intro q1_; (first | intro q2_ | have q2_ := q1_); simp only [go_sem, Nat.reduceEqDiff, Nat.reduceAdd, Nat.reduceLeDiff, q1_, q2_]; (first | done | rfl))
    | (apply w_condX; · simp only [go_sem, Nat.reduceEqDiff, Nat.reduceAdd, Nat.reduceLeDiff]; (first | done | rfl)); (first | refine wcd_T ?_ | refine wcd_F ?_)
    | refine w_skip ?_ | refine w_exit ?_ | refine w_ret ?_
    | fail
    )
    exact ⟨.inr rfl, by simp only [go_sem, Nat.reduceEqDiff, Nat.reduceAdd, Nat.reduceLeDiff, retOf, resOf, found_none h3]⟩
  · refine ⟨?_, ?_, fun j hj => by omega⟩ <;> simp only [go_sem, Nat.reduceEqDiff, Nat.reduceAdd, Nat.reduceLeDiff]
  · simp only [go_sem, Nat.reduceEqDiff, Nat.reduceAdd, Nat.reduceLeDiff]
  · simp only [go_sem, Nat.reduceEqDiff, Nat.reduceAdd, Nat.reduceLeDiff]
/-! words of matchers -/
end

end
section
section
variable {env : Nat → Option Def} {fr : Fr} {σ σ' σ'' : St} {K : Fr → St → Prop} {Q : X → Fr → St → Prop} {p : PV} {P : Nat → Bool}
def SubP (P : Nat → Bool) (σ σ' : St) : Prop := ∀ o g x, P o = true → σ.m o g = some x → ∃ x', σ'.m o g = some x' ∧ x'.es = x.es ∧ x'.xs = x.xs
theorem SubP.refl (σ : St) : SubP P σ σ := fun _ _ x _ h => ⟨x, h, rfl, rfl⟩
theorem SubP.trans (h : SubP P σ σ') (h' : SubP P σ' σ'') : SubP P σ σ'' := fun o g x ho hx =>
  let ⟨y, h1, h2, h3⟩ := h o g x ho hx
  let ⟨z, h4, h5, h6⟩ := h' o g y ho h1
  ⟨z, h4, h5.trans h2, h6.trans h3⟩
theorem SubP.put (h : SubP P σ σ') {o g : Nat} (ho : P o = false) (y : Option Obj) : SubP P σ (σ'.put o g y) := fun o' g' x ho' hx => by
  obtain ⟨z, h1, h2⟩ := h o' g' x ho' hx
  refine ⟨z, ?_, h2⟩
  simp only [put_m]
  rw [if_neg (fun h => by rw [h.1, ho] at ho'; cases ho')]
  exact h1
theorem SubP.new (h : SubP P σ σ') (hF : Fresh σ') (s : Nat) (y : Obj) : SubP P σ (σ'.new s y) := fun o' g' x ho' hx => by
  obtain ⟨z, h1, h2⟩ := h o' g' x ho' hx
  refine ⟨z, ?_, h2⟩
  simp only [new_m]
  rw [if_neg]
  · exact h1
  · rintro ⟨rfl, rfl⟩
    rw [hF.none] at h1; cases h1
theorem SubP.same (h : SubP P σ σ') {o g : Nat} {x y : Obj} (hx : σ'.m o g = some x) (h1 : y.es = x.es) (h2 : y.xs = x.xs) : SubP P σ (σ'.put o g (some y)) := fun o' g' z ho' hz => by
  obtain ⟨u, q1, q2, q3⟩ := h o' g' z ho' hz
  simp only [put_m]
  by_cases hq : o' = o ∧ g' = g
  · obtain ⟨rfl, rfl⟩ := hq
    rw [hx] at q1
    simp only [Option.some.injEq] at q1
    subst q1
    exact ⟨y, by simp, h1.trans q2, h2.trans q3⟩
  · exact ⟨u, by rw [if_neg hq]; exact q1, q2, q3⟩
theorem SubP.of (h : ∀ o g, P o = true → σ'.m o g = σ.m o g) : SubP P σ σ' := fun o g x ho hx => ⟨x, by rw [h o g ho]; exact hx, rfl, rfl⟩
structure Kp (P : Nat → Prop) (σ σ' : St) : Prop where
  f : Fresh σ'
  m : ∀ o g, P o → g < σ.c o → σ'.m o g = σ.m o g
  c : ∀ o, σ.c o ≤ σ'.c o
theorem Kp.refl {P : Nat → Prop} (hF : Fresh σ) : Kp P σ σ := ⟨hF, fun _ _ _ _ => rfl, fun _ => Nat.le_refl _⟩
theorem Kp.trans {P : Nat → Prop} (h : Kp P σ σ') (h' : Kp P σ' σ'') : Kp P σ σ'' :=
  ⟨h'.f, fun o g hp hg => by rw [h'.m o g hp (Nat.lt_of_lt_of_le hg (h.c o)), h.m o g hp hg], fun o => Nat.le_trans (h.c o) (h'.c o)⟩
theorem Kp.new {P : Nat → Prop} (h : Kp P σ σ') (o : Nat) (y : Obj) : Kp P σ (σ'.new o y) :=
  ⟨h.f.new _ _, fun o' g' hp hg => by
    simp only [new_m]; rw [if_neg (fun e => by obtain ⟨rfl, rfl⟩ := e; have := h.c o'; omega)]; exact h.m o' g' hp hg, fun o' => Nat.le_trans (h.c o') (new_c_le _ _ _ _)⟩
theorem Kp.put {P : Nat → Prop} (h : Kp P σ σ') {o g : Nat} {x : Obj} (hx : σ'.m o g = some x) (ho : ¬ P o ∨ σ.c o ≤ g) (y : Option Obj) : Kp P σ (σ'.put o g y) :=
  ⟨h.f.put hx y, fun o' g' hp hg => by
    simp only [put_m]; rw [if_neg (fun e => by obtain ⟨rfl, rfl⟩ := e; rcases ho with ho | ho; exact ho hp; omega)]; exact h.m o' g' hp hg, h.c⟩
theorem Kp.app {P : Nat → Prop} (h : Kp P σ σ') {d : Nat} (hF : Fresh σ'') (hm : ∀ o g, o ≠ d → σ''.m o g = σ'.m o g) (hc : ∀ o, o ≠ d → σ''.c o = σ'.c o) (hd : ¬ P d) (hcd : σ'.c d ≤ σ''.c d) : Kp P σ σ'' :=
  ⟨hF, fun o g hp hg => by rw [hm o g (fun e => hd (e ▸ hp))]; exact h.m o g hp hg, fun o => by
    by_cases e : o = d
    · rw [e]; exact Nat.le_trans (h.c d) hcd
    · rw [hc o e]; exact h.c o⟩
theorem Kp.mono {P P' : Nat → Prop} (h : Kp P σ σ') (hp : ∀ o, P' o → P o) : Kp P' σ σ' := ⟨h.f, fun o g h1 h2 => h.m o g (hp o h1) h2, h.c⟩
end

end
section
attribute [local go_sem ↓] e_mv e_pick e_bin e_eqs e_beq e_un e_cvi e_str e_s2b e_b2s e_box e_build e_bsl e_ld e_st e_nck e_mkf e_slcS e_slcL e_fa e_fld e_ia e_iaa e_ix e_ixa e_ext e_lenS e_lenL e_mnmx e_app e_appb e_bbx e_msl e_clr e_call e_callv e_icall e_slcA e_mkm e_mput e_mget e_mlen e_mdel pa_t pa_c pa_f slcSP_str hiOf_some hiOf_none loOf_some loOf_none set_eq set_ne
attribute [local go_sem] pv pv1 simple frOf_0 frOf_1 frOf_2 frOf_3 frOf_4 frOf_5 ne_eq not_false_eq_true if_true Bool.false_eq_true if_false pbin punary Option.map_some Option.bind_some pick_and pick_or opt_true Bool.true_and Bool.and_self Bool.and_true Bool.true_or Bool.false_or Bool.not_true Bool.not_false callE pcall_eq List.map_cons List.map_nil List.append_nil List.nil_append List.cons_append mapM_cons' mapM_nil' dep_eq fz_sc fz_sl fz_em fz_fn fz_fp fz_agg fz_tu fz_bx fz_ob Nat.lt_irrefl Nat.zero_lt_one Nat.lt_add_one flat clL cl Bool.or_true okc_sc okc_em okc_sl okc_ob okc_bx okc_fp okc_fn okc_agg okc_ifc cells_agg cells_sc cells_sl cells_em cells_ob cells_fn cells_bx cells_fp List.length_cons List.length_nil Nat.zero_add and_self true_and and_true new_m new_c put_m put_c nil_m nil_c nil_mm new_mm put_mm newM_m newM_c newM_mm putM_m putM_c putM_mm mkeyV_1 mkeyV_2 mapAt_eq deref List.getElem?_cons_zero List.getElem?_cons_succ List.drop_zero List.drop_succ_cons List.take_succ_cons List.take_zero Nat.le_refl false_and and_false decide_true decide_false lenP_em lenP_nil lenP_sl lenP_ob Int.ofNat_zero
def dConF (k : Nat) : Def := (.code 2 [.tmp 4] (.seq (.rg false [⟨.some 4, .none, .mv (.c (.bool false))⟩]) (.seq (.rg false [⟨.some 5, .none, .mv (.t 0)⟩, ⟨.some 6, .none, .mv (.t 1)⟩, ⟨.some 7, .none, .call k .pure [.t 5, .t 6]⟩, ⟨.some 8, .none, .bin .geq (.t 7) (.c (.int .i64 0))⟩, ⟨.some 4, .none, .mv (.t 8)⟩]) .ret)))
section
variable {env : Nat → Option Def} {fr : Fr} {σ σ' σ'' : St} {K : Fr → St → Prop} {Q : X → Fr → St → Prop} {p : PV} {bs : List UInt8}
theorem conF_g {k0 k1 : Nat} (hk1 : env k1 = some (dConF k0)) {xs : List PV} {k : Nat} {a b : List PV} {n : Int} (ha : ∀ σ, a.mapM (fz σ 11) = some a) (hb : ∀ σ, b.mapM (fz σ 11) = some b) (h : AV env k0 [.sl xs, .fn k a b] = some (.sc (.int .i64 n))) :
    AV env k1 [.sl xs, .fn k a b] = some (.sc (.bool (decide (n ≥ 0)))) := by
  refine AV_wp hk1 rfl ?_
  (repeat' first
    | refine w_seq ?_ | refine w_rg ?_ | refine wo_nil ?_ | refine g_skU ?_ | refine g_skT ?_ | refine g_skF ?_
    | ((first | apply s_plain | apply s_void | apply s_guard | apply g_goT | apply g_goF); · simp only [go_sem, Nat.reduceEqDiff, Nat.reduceAdd, Nat.reduceLeDiff, h, ha, hb]; (first | done | rfl))
    | ((first | apply g_T | apply g_F | apply g_gT | apply g_gF); · intro q1_; (first | intro q2_ | have q2_ := q1_); simp only [go_sem, Nat.reduceEqDiff, Nat.reduceAdd, Nat.reduceLeDiff, h, ha, hb, q1_, q2_]; (first | done | rfl))
    | (apply w_condX; · simp only [go_sem, Nat.reduceEqDiff, Nat.reduceAdd, Nat.reduceLeDiff, h, ha, hb]; (first | done | rfl)); (first | refine wcd_T ?_ | refine wcd_F ?_)
    | refine w_skip ?_ | refine w_exit ?_ | refine w_ret ?_
    | fail
    )
  exact ⟨by first | exact .inr rfl | exact .inr trivial | exact .inl rfl, by simp only [go_sem, Nat.reduceEqDiff, Nat.reduceAdd, Nat.reduceLeDiff, retOf, resOf]; first | done | rfl⟩
theorem found_any {α : Type} {l : List α} {q : Nat → Bool} {f : α → Bool} (h : ∀ i x, l[i]? = some x → q i = f x) : decide (found q l.length ≥ 0) = l.any f := by
  rw [Bool.eq_iff_iff, decide_eq_true_iff, List.any_eq_true]
  unfold found
  constructor
  · intro h0
    cases hf : (List.range l.length).find? q with
    | none => rw [hf] at h0; simp at h0
    | some i =>
      have hi : i < l.length := by simpa using List.mem_of_find?_eq_some hf
      exact ⟨l[i], List.getElem_mem hi, by rw [← h i _ (List.getElem?_eq_getElem hi)]; exact List.find?_some hf⟩
  · rintro ⟨x, hx, hfx⟩
    obtain ⟨i, hi⟩ := List.getElem?_of_mem hx
    cases hf : (List.range l.length).find? q with
    | none =>
      have := List.find?_eq_none.1 hf i (by simpa using (List.getElem?_eq_some_iff.1 hi).1)
      rw [h i x hi] at this
      exact absurd hfx this
    | some j => simp
def Aggs (es : Nat) (xs : List PV) : Prop := ∀ (i : Nat) e, xs[i]? = some e → ∃ cs, e = .agg cs ∧ cs.length = es
theorem all_hit {q : Nat → Bool} {n i : Nat} (hi : i < n) (h : q i = false) : (List.range n).all q = false := by
  rw [List.all_eq_false]
  exact ⟨i, by simpa using hi, by simp [h]⟩
theorem all_all {q : Nat → Bool} {n : Nat} (h : ∀ j, j < n → q j = true) : (List.range n).all q = true := by
  rw [List.all_eq_true]
  intro j hj
  exact h j (by simpa using hj)
end

end
section
attribute [local go_sem ↓] e_mv e_pick e_bin e_eqs e_beq e_un e_cvi e_str e_s2b e_b2s e_box e_build e_bsl e_ld e_st e_nck e_mkf e_slcS e_slcL e_fa e_fld e_ia e_iaa e_ix e_ixa e_ext e_lenS e_lenL e_mnmx e_app e_appb e_bbx e_msl e_clr e_call e_callv e_icall e_slcA e_mkm e_mput e_mget e_mlen e_mdel pa_t pa_c pa_f slcSP_str hiOf_some hiOf_none loOf_some loOf_none set_eq set_ne
attribute [local go_sem] pv pv1 simple frOf_0 frOf_1 frOf_2 frOf_3 frOf_4 frOf_5 ne_eq not_false_eq_true if_true Bool.false_eq_true if_false pbin punary Option.map_some Option.bind_some pick_and pick_or opt_true Bool.true_and Bool.and_self Bool.and_true Bool.true_or Bool.false_or Bool.not_true Bool.not_false callE pcall_eq List.map_cons List.map_nil List.append_nil List.nil_append List.cons_append mapM_cons' mapM_nil' dep_eq fz_sc fz_sl fz_em fz_fn fz_fp fz_agg fz_tu fz_bx fz_ob Nat.lt_irrefl Nat.zero_lt_one Nat.lt_add_one flat clL cl Bool.or_true okc_sc okc_em okc_sl okc_ob okc_bx okc_fp okc_fn okc_agg okc_ifc cells_agg cells_sc cells_sl cells_em cells_ob cells_fn cells_bx cells_fp List.length_cons List.length_nil Nat.zero_add and_self true_and and_true new_m new_c put_m put_c nil_m nil_c nil_mm new_mm put_mm newM_m newM_c newM_mm putM_m putM_c putM_mm mkeyV_1 mkeyV_2 mapAt_eq deref List.getElem?_cons_zero List.getElem?_cons_succ List.drop_zero List.drop_succ_cons List.take_succ_cons List.take_zero Nat.le_refl false_and and_false decide_true decide_false lenP_em lenP_nil lenP_sl lenP_ob Int.ofNat_zero splice fillP fillE List.modify_zero_cons List.replicate_succ List.replicate_zero List.set_cons_zero List.drop_zero ba_data ba_size ba_toList ba_extract ba_append List.toList_toArray
section
variable {env : Nat → Option Def} {fr : Fr} {σ σ' σ'' : St} {K : Fr → St → Prop} {Q : X → Fr → St → Prop} {p : PV} {bs : List UInt8}
theorem half {i j : Nat} (h : i + j ≤ 9223372036854775807) : IntKind.i64.wrap ((i : Int) + (j : Int)) = ((i + j : Nat) : Int) ∧ IntKind.u64.wrap ((i + j : Nat) : Int) = ((i + j : Nat) : Int) ∧
    pbin .shr (.int .u64 ((i + j : Nat) : Int)) (.int .u64 1) = some (.int .u64 (((i + j) / 2 : Nat) : Int)) ∧ IntKind.i64.wrap (((i + j) / 2 : Nat) : Int) = (((i + j) / 2 : Nat) : Int) := by
  refine ⟨by rw [IntKind.wrap_i64]; omega, ?_, ?_, by rw [IntKind.wrap_i64]; omega⟩
  · show ((i + j : Nat) : Int).emod (2 ^ 64) = _
    exact Int.emod_eq_of_lt (by omega) (by omega)
  · have e : (((i + j : Nat) : Int).fdiv (2 ^ (min (1 : Int).toNat IntKind.u64.bits))) = (((i + j) / 2 : Nat) : Int) := by
      rw [show min (1 : Int).toNat IntKind.u64.bits = 1 from rfl, Int.fdiv_eq_ediv_of_nonneg _ (by decide)]
      omega
    show (if (1 : Int) < 0 then none else some (Value.int .u64 (((i + j : Nat) : Int).fdiv (2 ^ (min (1 : Int).toNat IntKind.u64.bits))))) = _
    rw [if_neg (by decide), e]
end

def dBsB (es ts : Nat) : Def := (.code 3 [.tmp 6, .tmp 7] (.seq (.rg false [⟨.some 4, .none, .box (.t 1)⟩, ⟨.some 6, .none, .mv (.c (.int .i64 0))⟩, ⟨.some 7, .none, .mv (.c (.bool false))⟩]) (.seq (.rg false [⟨.some 12, .none, .mv (.t 0)⟩, ⟨.some 13, .none, .lenL (.t 12)⟩, ⟨.some 8, .none, .mv (.t 13)⟩]) (.seq (.rg false [⟨.some 14, .none, .mv (.t 8)⟩, ⟨.some 9, .none, .mv (.c (.int .i64 0))⟩, ⟨.some 10, .none, .mv (.t 14)⟩]) (.seq (.block 0 (.loop (.seq (.seq (.rg false [⟨.some 15, .none, .mv (.t 9)⟩, ⟨.some 16, .none, .mv (.t 10)⟩, ⟨.some 17, .none, .bin .lss (.t 15) (.t 16)⟩]) (.cond (.t 17) .skip (.exit 0))) (.block 1 (.seq (.rg false [⟨.some 18, .none, .mv (.t 9)⟩, ⟨.some 19, .none, .mv (.t 10)⟩, ⟨.some 20, .none, .bin .add (.t 18) (.t 19)⟩, ⟨.some 21, .none, .cvi .u64 (.t 20)⟩, ⟨.some 22, .none, .bin .shr (.t 21) (.c (.int .u64 1))⟩, ⟨.some 23, .none, .cvi .i64 (.t 22)⟩, ⟨.some 11, .none, .mv (.t 23)⟩]) (.seq (.rg true [⟨.some 24, .none, .mv (.t 2)⟩, ⟨.some 25, .none, .mv (.t 0)⟩, ⟨.some 26, .none, .mv (.t 11)⟩, ⟨.some 27, .none, .ia es (.t 25) (.t 26)⟩, ⟨.some 28, .none, .ld (.some es) (.t 27)⟩, ⟨.some 29, .none, .ld (.some ts) (.t 4)⟩, ⟨.some 30, .none, .callv (.t 24) .strict [.t 28, .t 29]⟩, ⟨.some 31, .none, .bin .lss (.t 30) (.c (.int .i64 0))⟩]) (.cond (.t 31) (.rg false [⟨.some 32, .none, .mv (.t 11)⟩, ⟨.some 33, .none, .bin .add (.t 32) (.c (.int .i64 1))⟩, ⟨.some 9, .none, .mv (.t 33)⟩]) (.rg false [⟨.some 34, .none, .mv (.t 11)⟩, ⟨.some 10, .none, .mv (.t 34)⟩])))))))) (.seq (.rg true [⟨.some 35, .none, .mv (.t 9)⟩, ⟨.some 36, .none, .mv (.t 9)⟩, ⟨.some 37, .none, .mv (.t 8)⟩, ⟨.some 38, .none, .bin .lss (.t 36) (.t 37)⟩, ⟨.some 39, .none, .mv (.t 38)⟩, ⟨.some 40, .some (39, true), .mv (.t 2)⟩, ⟨.some 41, .some (39, true), .mv (.t 0)⟩, ⟨.some 42, .some (39, true), .mv (.t 9)⟩, ⟨.some 43, .some (39, true), .ia es (.t 41) (.t 42)⟩, ⟨.some 44, .some (39, true), .ld (.some es) (.t 43)⟩, ⟨.some 45, .some (39, true), .ld (.some ts) (.t 4)⟩, ⟨.some 46, .some (39, true), .callv (.t 40) .strict [.t 44, .t 45]⟩, ⟨.some 47, .some (39, true), .bin .eql (.t 46) (.c (.int .i64 0))⟩, ⟨.some 48, .none, .pick (.t 39) (.t 47) (.c (.bool false))⟩, ⟨.some 6, .none, .mv (.t 35)⟩, ⟨.some 7, .none, .mv (.t 48)⟩]) .ret))))))
section
variable {env : Nat → Option Def} {fr : Fr} {σ σ' σ'' : St} {K : Fr → St → Prop} {Q : X → Fr → St → Prop} {p : PV} {bs : List UInt8}
theorem bsB_g {k0 es ts : Nat} (hk0 : env k0 = some (dBsB es ts)) {xs : List PV} {tc : List PV} (htc : tc.length = ts) {k i0 : Nat} {a b : List PV} {c : Nat → Int} (hn : xs.length ≤ 4000000000000000000) (hE : Aggs es xs)
    (hz : ∀ (i : Nat) e, xs[i]? = some e → ∀ σ, (a ++ [e, .agg tc] ++ b).mapM (fz σ 12) = some (a ++ [e, .agg tc] ++ b))
    (hq : ∀ (i : Nat) e, xs[i]? = some e → AV env k (a ++ [e, .agg tc] ++ b) = some (.sc (.int .i64 (c i)))) (h0 : i0 ≤ xs.length) (hlo : ∀ i, i < i0 → c i < 0) (hhi : ∀ i, i0 ≤ i → i < xs.length → ¬ c i < 0) :
    AV env k0 [.sl xs, .agg tc, .fn k a b] = some (.tu [.sc (.int .i64 (i0 : Int)), .sc (.bool (decide (i0 < xs.length) && (c i0 == 0)))]) := by
  refine AV_wp hk0 rfl ?_
  have htk : tc.take ts = tc := List.take_of_length_le (by omega)
  (repeat' first
    | refine w_seq ?_ | refine w_rg ?_ | refine wo_nil ?_ | refine g_skU ?_ | refine g_skT ?_ | refine g_skF ?_
    | ((first | apply s_plain | apply s_void | apply s_guard | apply g_goT | apply g_goF); · simp only [go_sem, Nat.reduceEqDiff, Nat.reduceAdd, Nat.reduceLeDiff, htc]; (first | done | rfl))
    | ((first | apply g_T | apply g_F | apply g_gT | apply g_gF); · intro q1_; (first | intro q2_ | have q2_ := q1_); simp only [go_sem, Nat.reduceEqDiff, Nat.reduceAdd, Nat.reduceLeDiff, htc, q1_, q2_]; (first | done | rfl))
    | (apply w_condX; · simp only [go_sem, Nat.reduceEqDiff, Nat.reduceAdd, Nat.reduceLeDiff, htc]; (first | done | rfl)); (first | refine wcd_T ?_ | refine wcd_F ?_)
    | refine w_skip ?_ | refine w_exit ?_ | refine w_ret ?_
    | fail
    )
  refine w_block (w_loopF (fun m fr σ => ∃ i j : Nat, m = j - i ∧ i ≤ i0 ∧ i0 ≤ j ∧ j ≤ xs.length ∧ fr 9 = .sc (.int .i64 (i : Int)) ∧ fr 10 = .sc (.int .i64 (j : Int)) ∧ σ.m 2000004 0 = some ⟨ts, [.agg tc], true, true⟩) ?_ xs.length ?_)
  · rintro m fr1 σ1 ⟨i, j, rfl, hi, hj, hjn, f9, f10, hbx⟩ hfr
    have f0 := hfr 0 rfl
    have f1 := hfr 1 rfl
    have f2 := hfr 2 rfl
    have f8 := hfr 8 rfl
    have f4 := hfr 4 rfl
    simp only [go_sem, Nat.reduceEqDiff, Nat.reduceAdd, Nat.reduceLeDiff, htc] at f0 f1 f2 f8 f4
    by_cases hlt : i < j
    · have hd : decide ((i : Int) < (j : Int)) = true := by simp; omega
      obtain ⟨v1, v2, v3, v4⟩ := half (i := i) (j := j) (by omega)
      have hml : (i + j) / 2 < xs.length := by omega
      have hx := List.getElem?_eq_getElem hml
      have hag := hE _ _ hx
      have hqx := hq _ _ hx
      have hzx := hz _ _ hx
      simp only [List.append_assoc, List.cons_append, List.nil_append] at hzx hqx
      have hh1 : i ≤ (i + j) / 2 := by omega
      have hh2 : (i + j) / 2 < j := by omega
      generalize xs[(i + j) / 2] = e at hx hag hqx hzx
      generalize (i + j) / 2 = h at v3 v4 hml hx hqx hh1 hh2
      have e1 : (0 : Int) ≤ (h : Int) ∧ (h : Int) < (xs.length : Int) := by omega
      (repeat' first
    | refine w_seq ?_ | refine w_rg ?_ | refine wo_nil ?_ | refine g_skU ?_ | refine g_skT ?_ | refine g_skF ?_
    | ((first | apply s_plain | apply s_void | apply s_guard | apply g_goT | apply g_goF); · simp only [go_sem, Nat.reduceEqDiff, Nat.reduceAdd, Nat.reduceLeDiff, f9, f10, hd]; (first | done | rfl))
    | ((first | apply g_T | apply g_F | apply g_gT | apply g_gF); · intro q1_; (first | intro q2_ | have q2_ := q1_); simp only [go_sem, Nat.reduceEqDiff, Nat.reduceAdd, Nat.reduceLeDiff, f9, f10, hd, q1_, q2_]; (first | done | rfl))
    | (apply w_condX; · simp only [go_sem, Nat.reduceEqDiff, Nat.reduceAdd, Nat.reduceLeDiff, f9, f10, hd]; (first | done | rfl)); (first | refine wcd_T ?_ | refine wcd_F ?_)
    | refine w_skip ?_ | refine w_exit ?_ | refine w_ret ?_
    | fail
    )
      refine w_block ?_
      obtain ⟨cs, rfl, hcl⟩ := hag
      have hck : cs.take es = cs := List.take_of_length_le (by omega)
      (repeat' first
    | refine w_seq ?_ | refine w_rg ?_ | refine wo_nil ?_ | refine g_skU ?_ | refine g_skT ?_ | refine g_skF ?_
    | ((first | apply s_plain | apply s_void | apply s_guard | apply g_goT | apply g_goF); · simp only [go_sem, Nat.reduceEqDiff, Nat.reduceAdd, Nat.reduceLeDiff, f0, f1, f2, f4, f9, f10, v1, v2, ↓v3, v4, e1, Int.toNat_natCast, hx, hcl, hck, hbx, htc, htk, List.append_assoc, hzx, hqx]; (first | done | rfl))
    | ((first | apply g_T | apply g_F | apply g_gT | apply g_gF); · intro q1_; (first | intro q2_ | have q2_ := q1_); simp only [go_sem, Nat.reduceEqDiff, Nat.reduceAdd, Nat.reduceLeDiff, f0, f1, f2, f4, f9, f10, v1, v2, ↓v3, v4, e1, Int.toNat_natCast, hx, hcl, hck, hbx, htc, htk, List.append_assoc, hzx, hqx, q1_, q2_]; (first | done | rfl))
    | fail
    )
      by_cases hci : c h < 0
      · have hd2 : decide (c h < 0) = true := by simpa using hci
        have w1 : IntKind.i64.wrap ((h : Int) + 1) = ((h + 1 : Nat) : Int) := by rw [IntKind.wrap_i64]; omega
        (repeat' first
    | refine w_seq ?_ | refine w_rg ?_ | refine wo_nil ?_ | refine g_skU ?_ | refine g_skT ?_ | refine g_skF ?_
    | ((first | apply s_plain | apply s_void | apply s_guard | apply g_goT | apply g_goF); · simp only [go_sem, Nat.reduceEqDiff, Nat.reduceAdd, Nat.reduceLeDiff, hd2, w1]; (first | done | rfl))
    | ((first | apply g_T | apply g_F | apply g_gT | apply g_gF); · intro q1_; (first | intro q2_ | have q2_ := q1_); simp only [go_sem, Nat.reduceEqDiff, Nat.reduceAdd, Nat.reduceLeDiff, hd2, w1, q1_, q2_]; (first | done | rfl))
    | (apply w_condX; · simp only [go_sem, Nat.reduceEqDiff, Nat.reduceAdd, Nat.reduceLeDiff, hd2, w1]; (first | done | rfl)); (first | refine wcd_T ?_ | refine wcd_F ?_)
    | refine w_skip ?_ | refine w_exit ?_ | refine w_ret ?_
    | fail
    )
        try simp only [if_true]
        refine ⟨j - (h + 1), by omega, h + 1, j, rfl, ?_, hj, hjn, by simp only [go_sem, Nat.reduceEqDiff, Nat.reduceAdd, Nat.reduceLeDiff, w1], by simp only [go_sem, Nat.reduceEqDiff, Nat.reduceAdd, Nat.reduceLeDiff, f10], by simp only [go_sem, Nat.reduceEqDiff, Nat.reduceAdd, Nat.reduceLeDiff, hbx]⟩
        rcases Nat.lt_or_ge h i0 with hlt2 | hge
        · exact hlt2
        · exact absurd hci (hhi h hge hml)
      · have hd2 : decide (c h < 0) = false := by simpa using hci
        (repeat' first
    | refine w_seq ?_ | refine w_rg ?_ | refine wo_nil ?_ | refine g_skU ?_ | refine g_skT ?_ | refine g_skF ?_
    | ((first | apply s_plain | apply s_void | apply s_guard | apply g_goT | apply g_goF); · simp only [go_sem, Nat.reduceEqDiff, Nat.reduceAdd, Nat.reduceLeDiff, hd2]; (first | done | rfl))
    | ((first | apply g_T | apply g_F | apply g_gT | apply g_gF); · intro q1_; (first | intro q2_ | have q2_ := q1_); simp only [go_sem, Nat.reduceEqDiff, Nat.reduceAdd, Nat.reduceLeDiff, hd2, q1_, q2_]; (first | done | rfl))
    | (apply w_condX; · simp only [go_sem, Nat.reduceEqDiff, Nat.reduceAdd, Nat.reduceLeDiff, hd2]; (first | done | rfl)); (first | refine wcd_T ?_ | refine wcd_F ?_)
    | refine w_skip ?_ | refine w_exit ?_ | refine w_ret ?_
    | fail
    )
        try simp only [if_true]
        refine ⟨h - i, by omega, i, h, rfl, hi, ?_, by omega, by simp only [go_sem, Nat.reduceEqDiff, Nat.reduceAdd, Nat.reduceLeDiff, f9], by simp only [go_sem, Nat.reduceEqDiff, Nat.reduceAdd, Nat.reduceLeDiff], by simp only [go_sem, Nat.reduceEqDiff, Nat.reduceAdd, Nat.reduceLeDiff, hbx]⟩
        rcases Nat.lt_or_ge h i0 with hlt2 | hge
        · exact absurd (hlo h hlt2) hci
        · exact hge
    · have hij : i = i0 := by omega
      subst hij
      have hd : decide ((i : Int) < (j : Int)) = false := by simp; omega
      (repeat' first
    | refine w_seq ?_ | refine w_rg ?_ | refine wo_nil ?_ | refine g_skU ?_ | refine g_skT ?_ | refine g_skF ?_
    | ((first | apply s_plain | apply s_void | apply s_guard | apply g_goT | apply g_goF); · simp only [go_sem, Nat.reduceEqDiff, Nat.reduceAdd, Nat.reduceLeDiff, f9, f10, hd]; (first | done | rfl))
    | ((first | apply g_T | apply g_F | apply g_gT | apply g_gF); · intro q1_; (first | intro q2_ | have q2_ := q1_); simp only [go_sem, Nat.reduceEqDiff, Nat.reduceAdd, Nat.reduceLeDiff, f9, f10, hd, q1_, q2_]; (first | done | rfl))
    | (apply w_condX; · simp only [go_sem, Nat.reduceEqDiff, Nat.reduceAdd, Nat.reduceLeDiff, f9, f10, hd]; (first | done | rfl)); (first | refine wcd_T ?_ | refine wcd_F ?_)
    | refine w_skip ?_ | refine w_exit ?_ | refine w_ret ?_
    | fail
    )
      try simp only [if_true]
      try show Wp _ _ _ _ _
      by_cases hin : i < xs.length
      · have hd3 : decide ((i : Int) < (xs.length : Int)) = true := by simp; omega
        have hd4 : decide (i < xs.length) = true := by simpa using hin
        have hx := List.getElem?_eq_getElem hin
        have hag := hE _ _ hx
        have hqx := hq _ _ hx
        have hzx := hz _ _ hx
        simp only [List.append_assoc, List.cons_append, List.nil_append] at hzx hqx
        generalize xs[i] = e at hx hag hqx hzx
        have e1 : (0 : Int) ≤ (i : Int) ∧ (i : Int) < (xs.length : Int) := by omega
        rw [hd4]
        obtain ⟨cs, rfl, hcl⟩ := hag
        have hck : cs.take es = cs := List.take_of_length_le (by omega)
        (repeat' first
    | refine w_seq ?_ | refine w_rg ?_ | refine wo_nil ?_ | refine g_skU ?_ | refine g_skT ?_ | refine g_skF ?_
    | ((first | apply s_plain | apply s_void | apply s_guard | apply g_goT | apply g_goF); · simp only [go_sem, Nat.reduceEqDiff, Nat.reduceAdd, Nat.reduceLeDiff, f0, f1, f2, f4, f8, f9, f10, hd3, e1, Int.toNat_natCast, hx, hcl, hck, hbx, htc, htk, List.append_assoc, hzx, hqx]; (first | done | rfl))
    | ((first | apply g_T | apply g_F | apply g_gT | apply g_gF); · intro q1_; (first | intro q2_ | have q2_ := q1_); simp only [go_sem, Nat.reduceEqDiff, Nat.reduceAdd, Nat.reduceLeDiff, f0, f1, f2, f4, f8, f9, f10, hd3, e1, Int.toNat_natCast, hx, hcl, hck, hbx, htc, htk, List.append_assoc, hzx, hqx, q1_, q2_]; (first | done | rfl))
    | (apply w_condX; · simp only [go_sem, Nat.reduceEqDiff, Nat.reduceAdd, Nat.reduceLeDiff, f0, f1, f2, f4, f8, f9, f10, hd3, e1, Int.toNat_natCast, hx, hcl, hck, hbx, htc, htk, List.append_assoc, hzx, hqx]; (first | done | rfl)); (first | refine wcd_T ?_ | refine wcd_F ?_)
    | refine w_skip ?_ | refine w_exit ?_ | refine w_ret ?_
    | fail
    )
        exact ⟨by first | exact .inr rfl | exact .inr trivial | exact .inl rfl, by simp only [go_sem, Nat.reduceEqDiff, Nat.reduceAdd, Nat.reduceLeDiff, retOf, resOf]; first | done | rfl⟩
      · have hd3 : decide ((i : Int) < (xs.length : Int)) = false := by simp; omega
        have hd4 : decide (i < xs.length) = false := by simpa using hin
        rw [hd4]
        (repeat' first
    | refine w_seq ?_ | refine w_rg ?_ | refine wo_nil ?_ | refine g_skU ?_ | refine g_skT ?_ | refine g_skF ?_
    | ((first | apply s_plain | apply s_void | apply s_guard | apply g_goT | apply g_goF); · simp only [go_sem, Nat.reduceEqDiff, Nat.reduceAdd, Nat.reduceLeDiff, f0, f1, f2, f8, f9, f10, hd3]; (first | done | rfl))
    | ((first | apply g_T | apply g_F | apply g_gT | apply g_gF); · intro q1_; (first | intro q2_ | have q2_ := q1_); simp only [go_sem, Nat.reduceEqDiff, Nat.reduceAdd, Nat.reduceLeDiff, f0, f1, f2, f8, f9, f10, hd3, q1_, q2_]; (first | done | rfl))
    | (apply w_condX; · simp only [go_sem, Nat.reduceEqDiff, Nat.reduceAdd, Nat.reduceLeDiff, f0, f1, f2, f8, f9, f10, hd3]; (first | done | rfl)); (first | refine wcd_T ?_ | refine wcd_F ?_)
    | refine w_skip ?_ | refine w_exit ?_ | refine w_ret ?_
    | fail
    )
        exact ⟨by first | exact .inr rfl | exact .inr trivial | exact .inl rfl, by simp only [go_sem, Nat.reduceEqDiff, Nat.reduceAdd, Nat.reduceLeDiff, retOf, resOf]; first | done | rfl⟩
  · exact ⟨0, xs.length, by omega, by omega, h0, Nat.le_refl _, by simp only [go_sem, Nat.reduceEqDiff, Nat.reduceAdd, Nat.reduceLeDiff]; first | done | rfl, by simp only [go_sem, Nat.reduceEqDiff, Nat.reduceAdd, Nat.reduceLeDiff], by simp only [go_sem, Nat.reduceEqDiff, Nat.reduceAdd, Nat.reduceLeDiff, htc]⟩
end

end
section
attribute [local go_sem ↓] e_mv e_pick e_bin e_eqs e_beq e_un e_cvi e_str e_s2b e_b2s e_box e_build e_bsl e_ld e_st e_nck e_mkf e_slcS e_slcL e_fa e_fld e_ia e_iaa e_ix e_ixa e_ext e_lenS e_lenL e_mnmx e_app e_appb e_bbx e_msl e_clr e_call e_callv e_icall e_slcA e_mkm e_mput e_mget e_mlen e_mdel pa_t pa_c pa_f slcSP_str hiOf_some hiOf_none loOf_some loOf_none set_eq set_ne
attribute [local go_sem] pv pv1 simple frOf_0 frOf_1 frOf_2 frOf_3 frOf_4 frOf_5 ne_eq not_false_eq_true if_true Bool.false_eq_true if_false pbin punary Option.map_some Option.bind_some pick_and pick_or opt_true Bool.true_and Bool.and_self Bool.and_true Bool.true_or Bool.false_or Bool.not_true Bool.not_false callE pcall_eq List.map_cons List.map_nil List.append_nil List.nil_append List.cons_append mapM_cons' mapM_nil' dep_eq fz_sc fz_sl fz_em fz_fn fz_fp fz_agg fz_tu fz_bx fz_ob Nat.lt_irrefl Nat.zero_lt_one Nat.lt_add_one flat clL cl Bool.or_true okc_sc okc_em okc_sl okc_ob okc_bx okc_fp okc_fn okc_agg okc_ifc cells_agg cells_sc cells_sl cells_em cells_ob cells_fn cells_bx cells_fp List.length_cons List.length_nil Nat.zero_add and_self true_and and_true new_m new_c put_m put_c nil_m nil_c nil_mm new_mm put_mm newM_m newM_c newM_mm putM_m putM_c putM_mm mkeyV_1 mkeyV_2 mapAt_eq deref List.getElem?_cons_zero List.getElem?_cons_succ List.drop_zero List.drop_succ_cons List.take_succ_cons List.take_zero Nat.le_refl false_and and_false decide_true decide_false lenP_em lenP_nil lenP_sl lenP_ob Int.ofNat_zero
section
variable {env : Nat → Option Def} {fr : Fr} {σ σ' : St} {K : Fr → St → Prop} {Q : X → Fr → St → Prop}
structure Del (l : List Lab) (ns : List ByteArray) (g g3 : Nat) (i j : Nat) (X : List Lab) (fr : Fr) (σ : St) : Prop where
  f0 : fr 0 = .ob 7 g 2 0 l.length
  f1 : fr 1 = .fn 247 [] [.bx 2000003 g3 1 0 0]
  f5 : fr 5 = .sc (.int .i64 (i : Int))
  f6 : fr 6 = .sc (.int .i64 (j : Int))
  lx : X.length = l.length
  ij : i < j
  tk : X.take i = keepL (l.take j) ns
  dr : X.drop j = l.drop j
  mm : σ.m 7 g = some ⟨2, labs X, true, true⟩
  gc : g < σ.c 7
  mq : ∃ wr, σ.m 2000003 g3 = some ⟨1, [.sl (strs ns)], true, wr⟩
end

theorem toList_inj {a b : ByteArray} (h : a.toList = b.toList) : a = b := by
  rw [ByteArray.toList_eq, ByteArray.toList_eq] at h
  exact Go.WideShapes.bytes_inj h
theorem names_of (l : List Lab) (i : Nat) (n : ByteArray) : isN l n i = true ↔ (nth l i).1 = n := by
  unfold isN
  rw [beq_iff_eq]
  exact ⟨toList_inj, fun h => by rw [h]⟩
theorem rising_unique {l l' : List Lab} (h1 : Rising l) (h2 : Rising l') (hp : l.Perm l') : l = l' :=
  List.Perm.eq_of_pairwise (fun a b _ _ hab hba => by
    have := lessB_trans hab hba
    rw [lessB_irrefl] at this
    cases this) h1 h2 hp
theorem sorted_id {l : List Lab} (h : Rising l) : sortedL l = l := rising_unique (sorted_rising h.apart) h (sorted_perm l)
theorem Apart.perm {l l' : List Lab} (h : Apart l) (hp : l.Perm l') : Apart l' := (hp.pairwise_iff (fun h => Ne.symm h)).1 h
theorem get_hit {l : List Lab} (h : Apart l) {m : Lab} (hm : m ∈ l) : getB l m.1 = m.2 := by
  obtain ⟨i, hi, rfl⟩ := List.getElem_of_mem hm
  obtain ⟨j, h1, h2, h3⟩ := found_is (p := isN l l[i].1) hi ((names_of _ _ _).2 (by rw [nth_eq hi]))
  rw [names_of, nth_eq h2] at h3
  have hij : j = i := by
    rcases Nat.lt_trichotomy j i with hlt | he | hgt
    · exact absurd h3 (List.pairwise_iff_getElem.1 h j i h2 hi hlt)
    · exact he
    · exact absurd h3.symm (List.pairwise_iff_getElem.1 h i j hi h2 hgt)
  subst hij
  unfold getB
  rw [h1, if_neg (by omega)]
  show (nth l ((j : Int)).toNat).2 = _
  rw [Int.toNat_natCast, nth_eq hi]
theorem get_miss {l : List Lab} {n : ByteArray} (h : ∀ m ∈ l, m.1 ≠ n) : getB l n = ⟨#[]⟩ := by
  unfold getB
  rw [found_none fun j hj => ?_]
  · rfl
  · cases hb : isN l n j with
    | false => rfl
    | true =>
      rw [names_of, nth_eq hj] at hb
      exact absurd hb (h _ (List.getElem_mem hj))
theorem get_over {a b : List Lab} (h1 : rightL a = true) (h2 : rightL b = true) (n : ByteArray) : getB (sortedL (overL a b)) n = if ((getB b n).toList == (⟨#[]⟩ : ByteArray).toList) = true then getB a n else getB b n := by
  have hap := (over_apart h1 h2).perm (sorted_perm _).symm
  obtain ⟨m1, r1, _⟩ := right_iff.1 h1
  obtain ⟨m2, r2, _⟩ := right_iff.1 h2
  have hin : ∀ m, m ∈ overL a b → m ∈ sortedL (overL a b) := fun m hm => (sorted_perm _).symm.subset hm
  by_cases hb : ∃ m ∈ b, m.1 = n
  · obtain ⟨m, hm, rfl⟩ := hb
    rw [get_hit r2.apart hm, if_neg (by rw [may_value (m2 m hm)]; decide), get_hit hap (hin m (by simp [overL, hm]))]
  · have hbn : getB b n = ⟨#[]⟩ := get_miss fun m hm he => hb ⟨m, hm, he⟩
    rw [hbn, if_pos (by simp)]
    by_cases ha : ∃ m ∈ a, m.1 = n
    · obtain ⟨m, hm, rfl⟩ := ha
      have hmiss : missB b m = true := by unfold missB; rw [hbn]; simp
      rw [get_hit r1.apart hm, get_hit hap (hin m (by simp [overL, hm, hmiss]))]
    · rw [get_miss fun m hm he => ha ⟨m, hm, he⟩, get_miss fun m hm he => ?_]
      have := (sorted_perm _).subset hm
      simp only [overL, List.mem_append, List.mem_filter] at this
      rcases this with h | h
      · exact hb ⟨m, h, he⟩
      · exact ha ⟨m, h.1, he⟩

end
section
section
variable {P : Program}
def fieldsOf (P : Program) (t : TypeId) : List (Nat × TypeId) := match P.underlying t with
  | some (.struct fs) => fs.toList.map fun f => (f.offset, f.type)
  | _ => []
theorem Is.fields {t : TypeId} {ps : List PV} (h : Is P t ps) (ha : isAgg P t = true) : ps.length = P.cellsOf t ∧ ∀ q ∈ fieldsOf P t, Is P q.2 ((ps.drop q.1).take (P.cellsOf q.2)) := by
  unfold isAgg at ha
  split at ha
  · rename_i fs hu
    obtain ⟨h1, h2⟩ := h.st' hu
    refine ⟨h1, fun q hq => ?_⟩
    simp only [fieldsOf, hu, List.mem_map] at hq
    obtain ⟨f, hf, rfl⟩ := hq
    obtain ⟨i, hi⟩ := List.getElem?_of_mem hf
    exact h2 i f (by simpa using hi)
  · cases ha
theorem str_of {t : TypeId} {p : PV} (h : Is P t [p]) (hk : (match P.underlying t with | some .string => true | _ => false) = true) : ∃ s : ByteArray, p = .sc (.string s) ∧ s.size ≤ reachBytes := by
  split at hk
  · rename_i hu
    obtain ⟨s, hs, h2⟩ := h.str' hu
    simp only [List.cons.injEq, and_true] at hs
    exact ⟨s, hs, h2⟩
  · cases hk
theorem returns_and_shapedZ {H : Type} {enc : TypeId × Value → H} {a : Assume} {C : Checked} {os : Os} {f : FuncId} {fn : Func} {s : ChangeSpec} {conds : List PathCond} {apart fresh handsOn again : Bool} {Z : World → Array Value → Prop}
    (hZ : ∀ (w w' : World) (args : Array Value), w.heap = w'.heap → Z w args → Z w' args)
    (own : ownKnob C.prog.godebug = none) (started : os.Started) (noInit : C.prog.inits.idxOf? f = none) (hfn : C.prog.funcs[f]? = some fn)
    (witness : ∃ (w : World) (tape : Tape) (i : Input), w.os = os ∧ (w.forCall tape i).Shaped C.prog ∧ i.vars = [] ∧ Input.okWide C.prog (w.forCall tape i) .any w.heap.size f i ∧
      ((s.pre enc C.prog fn conds apart (w.forCall tape i).memory i.args ∧ Z (w.forCall tape i).memory i.args) ∧ sizedMet enc C.prog fn (OpenSpec.ofChange s) apart (w.forCall tape i).memory i.args) ∧ a.holds C.prog (lone (Frame.enter C.prog f i.args .normal) [] (w.forCall tape i)))
    (contract : ∀ (W : World) (base : Nat) (args : Array Value) (ds gs : List (DataW H)) (before : List MemPlace),
      (∀ (j : Nat) t v, fn.params[j]? = some t → args[j]? = some v → Value.okWide C.prog W .any base t v) →
      DataW.Whole enc C.prog fn.params.toList s.vars apart W args.toList ds gs before →
      conds.all (PathCond.test C.prog ⟨fn.params.toList, ds, s.plain.varTypes C.prog, gs⟩) = true →
      (DataW.weightsEach C.prog (fn.params.toList ++ s.plain.varTypes C.prog) (ds ++ gs)).all (· ≤ reachBytes) = true → W.ShapedOpen C.prog → Z W args →
      Calls C.prog f args W fun e W' => ∃ v, e = .returned v ∧ s.post enc C.prog fn apart fresh handsOn again W args v W') :
    ReturnsInHanded a C os f .any (fun w args => (s.pre enc C.prog fn conds apart w args ∧ Z w args) ∧ sizedMet enc C.prog fn (OpenSpec.ofChange s) apart w args) (s.post enc C.prog fn apart fresh handsOn again) := by
  refine returnsInHanded_of_calls own started noInit witness ?_
  intro w tape i _ hsh _ hok hpre _
  obtain ⟨_, _, _, fn', hfn', _, _, _, _, hval⟩ := hok
  have e : fn' = fn := Option.some.inj (hfn'.symm.trans hfn)
  subst e
  obtain ⟨⟨⟨ds, gs, before, hw, hc⟩, hzz⟩, hz⟩ := hpre
  have hw' := DataW.Whole.of_heap (w' := w.forCall tape i) (by rfl) hw
  refine (contract (w.forCall tape i) w.heap.size i.args ds gs before hval hw' hc (hz.weights hw) hsh (hZ (w.forCall tape i).memory (w.forCall tape i) i.args rfl hzz)).mono fun e W' ⟨v, he, hp⟩ => ?_
  subst he
  exact ChangeSpec.post_blind hp
end

def numsW (l : List Int) : List PV := l.map fun i => .sc (.int .i64 i)
theorem numsW_len (l : List Int) : (numsW l).length = l.length := by simp [numsW]
theorem numsW_at {l : List Int} {i : Nat} (h : i < l.length) : (numsW l)[i]? = some (.sc (.int .i64 l[i])) := by simp [numsW, h]
section
variable {P : Program}
theorem rowN_of {α : Type} {e : TypeId} (f : α → PV) (hf : ∀ ys, Is P e ys → ∃ a, mkPV (isAgg P e) ys = f a) : ∀ yss : List (List PV), (∀ ys ∈ yss, Is P e ys) → ∃ l : List α, yss.map (mkPV (isAgg P e)) = l.map f ∧ l.length = yss.length
  | [], _ => ⟨[], rfl, rfl⟩
  | ys :: r, hz => by
    obtain ⟨l, e1, e2⟩ := rowN_of f hf r fun y hy => hz y (by simp [hy])
    obtain ⟨m, g1⟩ := hf ys (hz ys (by simp))
    exact ⟨m :: l, by simp [g1, e1], by simp [e2]⟩
theorem sliceN_of {α : Type} {t e : TypeId} {ps : List PV} (h : Is P t ps) (he : P.underlying t = some (.slice e)) (hb : 0 < P.bytesOf e) (f : α → PV) (hf : ∀ ys, Is P e ys → ∃ a, mkPV (isAgg P e) ys = f a) :
    ∃ l : List α, ps = [.sl (l.map f)] ∧ l.length ≤ reachBytes := by
  obtain ⟨yss, rfl, h1, h2⟩ := h.sl' he
  obtain ⟨l, e1, e2⟩ := rowN_of f hf yss h2
  refine ⟨l, by rw [e1], ?_⟩
  rw [e2]
  exact Nat.le_trans (Nat.le_mul_of_pos_right _ hb) h1
def isNums (P : Program) (t : TypeId) : Bool := match P.underlying t with
  | some (.slice e) => decide (0 < P.bytesOf e) && !isAgg P e && (match P.underlying e with | some (.int .i64) => true | _ => false)
  | _ => false
theorem nums_of {t : TypeId} {ps : List PV} (h : Is P t ps) (hk : isNums P t = true) : ∃ l : List Int, ps = [.sl (numsW l)] ∧ l.length ≤ reachBytes := by
  unfold isNums at hk
  split at hk
  · rename_i e he
    simp only [Bool.and_eq_true, decide_eq_true_eq, Bool.not_eq_true'] at hk
    obtain ⟨⟨hb, ha⟩, hs⟩ := hk
    split at hs
    · rename_i hu
      exact sliceN_of h he hb (fun i => .sc (.int .i64 i)) fun ys hy => by
        obtain ⟨s, rfl, _⟩ := hy.int' hu
        exact ⟨s, by rw [ha]; simp [mkPV]⟩
    · cases hs
  · cases hk
end

end
end Go.Proofs.YtcpgkdaicglogaaGreatDoorPv
