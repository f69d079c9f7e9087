/-
Own texts of the proof, merged: part 4.
-/
import Derived.Test.YtcpgkdaicglogaaGreatDoorPkWatchPlainC
namespace Go.Proofs.YtcpgkdaicglogaaGreatDoorPv
open Go
set_option linter.unusedSimpArgs false
set_option linter.unusedVariables false
set_option maxHeartbeats 4000000
set_option maxRecDepth 8000
section
attribute [local go_sem ↓] e_mv e_pick e_bin e_eqs e_beq e_un e_cvi e_str e_s2b e_b2s e_box e_build e_bsl e_ld e_st e_nck e_mkf e_slcS e_slcL e_fa e_fld e_ia e_iaa e_ix e_ixa e_ext e_lenS e_lenL e_mnmx e_app e_appb e_bbx e_msl e_clr e_call e_callv e_icall e_slcA e_mkm e_mput e_mget e_mlen e_mdel pa_t pa_c pa_f slcSP_str hiOf_some hiOf_none loOf_some loOf_none set_eq set_ne
attribute [local go_sem] pv pv1 simple frOf_0 frOf_1 frOf_2 frOf_3 frOf_4 frOf_5 ne_eq not_false_eq_true if_true Bool.false_eq_true if_false pbin punary Option.map_some Option.bind_some pick_and pick_or opt_true Bool.true_and Bool.and_self Bool.and_true Bool.true_or Bool.false_or Bool.not_true Bool.not_false callE pcall_eq List.map_cons List.map_nil List.append_nil List.nil_append List.cons_append mapM_cons' mapM_nil' dep_eq fz_sc fz_sl fz_em fz_fn fz_fp fz_agg fz_tu fz_bx fz_ob Nat.lt_irrefl Nat.zero_lt_one Nat.lt_add_one flat clL cl Bool.or_true okc_sc okc_em okc_sl okc_ob okc_bx okc_fp okc_fn okc_agg okc_ifc cells_agg cells_sc cells_sl cells_em cells_ob cells_fn cells_bx cells_fp List.length_cons List.length_nil Nat.zero_add and_self true_and and_true new_m new_c put_m put_c nil_m nil_c nil_mm new_mm put_mm newM_m newM_c newM_mm putM_m putM_c putM_mm mkeyV_1 mkeyV_2 mapAt_eq deref List.getElem?_cons_zero List.getElem?_cons_succ List.drop_zero List.drop_succ_cons List.take_succ_cons List.take_zero Nat.le_refl false_and and_false decide_true decide_false lenP_em lenP_nil lenP_sl lenP_ob Int.ofNat_zero splice fillP fillE List.modify_zero_cons List.replicate_succ List.replicate_zero List.set_cons_zero List.drop_zero ba_data ba_size ba_toList ba_extract ba_append List.toList_toArray
def d356 : Def := (.code 1 [.tmp 2] (.seq (.rg false [⟨.some 2, .none, .mv (.c (.slice .none 0 0))⟩]) (.seq (.rg false [⟨.some 3, .none, .mv (.c (.slice .none 0 0))⟩]) (.seq (.seq (.rg false [⟨.some 6, .none, .mv (.t 0)⟩, ⟨.some 7, .none, .lenL (.t 6)⟩, ⟨.some 8, .none, .mv (.c (.int .i64 0))⟩]) (.block 0 (.loop (.seq (.rg false [⟨.some 9, .none, .bin .lss (.t 8) (.t 7)⟩]) (.seq (.cond (.t 9) .skip (.exit 0)) (.seq (.block 1 (.seq (.rg false [⟨.some 10, .none, .ia 6 (.t 6) (.t 8)⟩, ⟨.some 11, .none, .ld (.some 6) (.t 10)⟩, ⟨.some 5, .none, .box (.c (.agg #[.string ⟨#[]⟩, .slice .none 0 0, .int .i64 0, .int .i64 0, .int .i64 0, .int .i64 0]))⟩, ⟨.none, .none, .st 6 (.t 5) (.t 11)⟩]) (.seq (.rg false [⟨.some 12, .none, .fa 2 (.t 5)⟩, ⟨.some 13, .none, .ld .none (.t 12)⟩, ⟨.some 14, .none, .bin .eql (.t 13) (.c (.int .i64 2))⟩, ⟨.some 15, .none, .mv (.t 14)⟩, ⟨.some 16, .some (15, false), .fa 2 (.t 5)⟩, ⟨.some 17, .some (15, false), .ld .none (.t 16)⟩, ⟨.some 18, .some (15, false), .bin .eql (.t 17) (.c (.int .i64 3))⟩, ⟨.some 19, .none, .pick (.t 15) (.c (.bool true)) (.t 18)⟩]) (.cond (.t 19) (.rg false [⟨.some 20, .none, .mv (.t 3)⟩, ⟨.some 21, .none, .fa 1 (.t 5)⟩, ⟨.some 22, .none, .ld .none (.t 21)⟩, ⟨.some 23, .none, .bsl 1 (.slice .none 0 0) 1 [(0, .t 22)]⟩, ⟨.some 24, .none, .app 1 24 false (.t 20) (.t 23)⟩, ⟨.some 3, .none, .mv (.t 24)⟩]) .skip)))) (.rg false [⟨.some 25, .none, .bin .add (.t 8) (.c (.int .i64 1))⟩, ⟨.some 8, .none, .mv (.t 25)⟩]))))))) (.seq (.rg false [⟨.some 26, .none, .mv (.t 3)⟩, ⟨.some 2, .none, .mv (.t 26)⟩]) .ret)))))
def d367 : Def := (.code 1 [.tmp 2] (.seq (.rg false [⟨.some 2, .none, .mv (.c (.slice .none 0 0))⟩]) (.seq (.rg false [⟨.some 3, .none, .mv (.c (.slice .none 0 0))⟩]) (.seq (.seq (.rg false [⟨.some 6, .none, .mv (.t 0)⟩, ⟨.some 7, .none, .mv (.t 0)⟩, ⟨.some 8, .none, .lenL (.t 7)⟩, ⟨.some 9, .none, .mnmx false [.t 8, .c (.int .i64 10)]⟩, ⟨.some 10, .none, .slcL 2 (.t 6) .none (.some (.t 9))⟩, ⟨.some 11, .none, .lenL (.t 10)⟩, ⟨.some 12, .none, .mv (.c (.int .i64 0))⟩]) (.block 0 (.loop (.seq (.rg false [⟨.some 13, .none, .bin .lss (.t 12) (.t 11)⟩]) (.seq (.cond (.t 13) .skip (.exit 0)) (.seq (.block 1 (.seq (.rg false [⟨.some 14, .none, .ia 2 (.t 10) (.t 12)⟩, ⟨.some 15, .none, .ld (.some 2) (.t 14)⟩, ⟨.some 5, .none, .box (.c (.agg #[.string ⟨#[]⟩, .string ⟨#[]⟩]))⟩, ⟨.none, .none, .st 2 (.t 5) (.t 15)⟩]) (.rg true [⟨.some 16, .none, .mv (.t 3)⟩, ⟨.some 17, .none, .fa 0 (.t 5)⟩, ⟨.some 18, .none, .ld .none (.t 17)⟩, ⟨.some 19, .none, .fa 0 (.t 5)⟩, ⟨.some 20, .none, .ld .none (.t 19)⟩, ⟨.some 21, .none, .lenS (.t 20)⟩, ⟨.some 22, .none, .mnmx false [.t 21, .c (.int .i64 70)]⟩, ⟨.some 23, .none, .slcS (.t 18) .none (.some (.t 22))⟩, ⟨.some 24, .none, .fa 1 (.t 5)⟩, ⟨.some 25, .none, .ld .none (.t 24)⟩, ⟨.some 26, .none, .fa 1 (.t 5)⟩, ⟨.some 27, .none, .ld .none (.t 26)⟩, ⟨.some 28, .none, .lenS (.t 27)⟩, ⟨.some 29, .none, .mnmx false [.t 28, .c (.int .i64 70)]⟩, ⟨.some 30, .none, .slcS (.t 25) .none (.some (.t 29))⟩, ⟨.some 31, .none, .build (.agg #[.string ⟨#[]⟩, .string ⟨#[]⟩]) [(0, (1, .t 23)), (1, (1, .t 30))]⟩, ⟨.some 32, .none, .bsl 2 (.agg #[.string ⟨#[]⟩, .string ⟨#[]⟩]) 1 [(0, .t 31)]⟩, ⟨.some 33, .none, .app 2 32 false (.t 16) (.t 32)⟩, ⟨.some 3, .none, .mv (.t 33)⟩]))) (.rg false [⟨.some 34, .none, .bin .add (.t 12) (.c (.int .i64 1))⟩, ⟨.some 12, .none, .mv (.t 34)⟩]))))))) (.seq (.rg false [⟨.some 35, .none, .mv (.t 3)⟩, ⟨.some 2, .none, .mv (.t 35)⟩]) .ret)))))
def d352 : Def := (.code 1 [.tmp 2] (.seq (.rg false [⟨.some 2, .none, .mv (.c (.slice .none 0 0))⟩]) (.seq (.rg false [⟨.some 3, .none, .mv (.c (.slice .none 0 0))⟩]) (.seq (.seq (.rg false [⟨.some 6, .none, .mv (.t 0)⟩, ⟨.some 7, .none, .mv (.t 0)⟩, ⟨.some 8, .none, .lenL (.t 7)⟩, ⟨.some 9, .none, .mnmx false [.t 8, .c (.int .i64 18)]⟩, ⟨.some 10, .none, .slcL 8 (.t 6) .none (.some (.t 9))⟩, ⟨.some 11, .none, .lenL (.t 10)⟩, ⟨.some 12, .none, .mv (.c (.int .i64 0))⟩]) (.block 0 (.loop (.seq (.rg false [⟨.some 13, .none, .bin .lss (.t 12) (.t 11)⟩]) (.seq (.cond (.t 13) .skip (.exit 0)) (.seq (.block 1 (.seq (.rg false [⟨.some 14, .none, .ia 8 (.t 10) (.t 12)⟩, ⟨.some 15, .none, .ld (.some 8) (.t 14)⟩, ⟨.some 5, .none, .box (.c (.agg #[.string ⟨#[]⟩, .string ⟨#[]⟩, .int .i64 0, .int .i64 0, .int .i64 0, .int .i64 0, .int .i64 0, .slice .none 0 0]))⟩, ⟨.none, .none, .st 8 (.t 5) (.t 15)⟩]) (.seq (.rg true [⟨.some 16, .none, .fa 0 (.t 5)⟩, ⟨.some 17, .none, .ld .none (.t 16)⟩, ⟨.some 18, .none, .fa 0 (.t 5)⟩, ⟨.some 19, .none, .ld .none (.t 18)⟩, ⟨.some 20, .none, .lenS (.t 19)⟩, ⟨.some 21, .none, .mnmx false [.t 20, .c (.int .i64 70)]⟩, ⟨.some 22, .none, .slcS (.t 17) .none (.some (.t 21))⟩, ⟨.some 23, .none, .fa 1 (.t 5)⟩, ⟨.some 24, .none, .ld .none (.t 23)⟩, ⟨.some 25, .none, .fa 1 (.t 5)⟩, ⟨.some 26, .none, .ld .none (.t 25)⟩, ⟨.some 27, .none, .lenS (.t 26)⟩, ⟨.some 28, .none, .mnmx false [.t 27, .c (.int .i64 70)]⟩, ⟨.some 29, .none, .slcS (.t 24) .none (.some (.t 28))⟩, ⟨.some 30, .none, .fa 7 (.t 5)⟩, ⟨.some 31, .none, .ld .none (.t 30)⟩, ⟨.some 32, .none, .call 367 .strict [.t 31]⟩, ⟨.some 33, .none, .fa 0 (.t 5)⟩, ⟨.none, .none, .st 1 (.t 33) (.t 22)⟩, ⟨.some 34, .none, .fa 1 (.t 5)⟩, ⟨.none, .none, .st 1 (.t 34) (.t 29)⟩, ⟨.some 35, .none, .fa 7 (.t 5)⟩, ⟨.none, .none, .st 1 (.t 35) (.t 32)⟩]) (.rg false [⟨.some 36, .none, .mv (.t 3)⟩, ⟨.some 37, .none, .ld (.some 8) (.t 5)⟩, ⟨.some 38, .none, .bsl 8 (.agg #[.string ⟨#[]⟩, .string ⟨#[]⟩, .int .i64 0, .int .i64 0, .int .i64 0, .int .i64 0, .int .i64 0, .slice .none 0 0]) 1 [(0, .t 37)]⟩, ⟨.some 39, .none, .app 8 96 false (.t 36) (.t 38)⟩, ⟨.some 3, .none, .mv (.t 39)⟩])))) (.rg false [⟨.some 40, .none, .bin .add (.t 12) (.c (.int .i64 1))⟩, ⟨.some 12, .none, .mv (.t 40)⟩]))))))) (.seq (.rg false [⟨.some 41, .none, .mv (.t 3)⟩, ⟨.some 2, .none, .mv (.t 41)⟩]) .ret)))))
def lwg : List (Nat × Def) := [(356, d356)]
def lwh : List (Nat × Def) := [(367, d367), (352, d352)]
theorem d367_eq : d367 = d108 := rfl
def fireB (a : Al) : Bool := a.state == 2 || a.state == 3
def firing (a : List Al) : List (List Lab) := (a.filter fireB).map (·.labels)
def lss (l : List (List Lab)) : List PV := l.map fun x => .sl (labs x)
theorem lss_len (l : List (List Lab)) : (lss l).length = l.length := by simp [lss]
section
variable {env : Nat → Option Def} {fr : Fr} {σ σ' σ'' : St} {K : Fr → St → Prop} {Q : X → Fr → St → Prop} {p : PV} {bs : List UInt8}
theorem lss_fz (σ : St) (d : Nat) (l : List (List Lab)) : (lss l).mapM (fz σ (d + 1)) = some (lss l) := by
  induction l with
  | nil => rfl
  | cons a r ih =>
    show List.mapM (fz σ (d + 1)) (.sl (labs a) :: lss r) = _
    rw [mapM_cons', ih]
    rfl
theorem firing_take {a : List Al} {i : Nat} (h : i < a.length) : firing (a.take (i + 1)) = firing (a.take i) ++ (if fireB a[i] = true then [a[i].labels] else []) := by
  unfold firing
  rw [List.take_succ_eq_append_getElem h, List.filter_append, List.map_append]
  congr 1
  by_cases hb : fireB a[i] = true
  · rw [if_pos hb]; simp [hb]
  · rw [if_neg hb]; simp [hb]
theorem firing_len (a : List Al) : (firing a).length ≤ a.length := by
  unfold firing
  rw [List.length_map]
  exact List.length_filter_le _ _
theorem a356 (G : Has lwg env) {a : List Al} (hn : a.length ≤ 100000) : AV env 356 [.sl (als a)] = some (.sl (lss (firing a))) := by
  have hal := als_len a
  refine AV_wp (G (356, d356) (by simp [lwg])) rfl ?_
  (repeat' first
    | refine w_seq ?_ | refine w_rg ?_ | refine wo_nil ?_ | refine g_skU ?_ | refine g_skT ?_ | refine g_skF ?_
    | ((first | apply s_plain | apply s_void | apply s_guard | apply g_goT | apply g_goF); · simp only [go_sem, Nat.reduceEqDiff, Nat.reduceAdd, Nat.reduceLeDiff, hal]; (first | done | rfl))
    | ((first | apply g_T | apply g_F | apply g_gT | apply g_gF); · intro q1_; (first | intro q2_ | have q2_ := q1_); simp only [go_sem, Nat.reduceEqDiff, Nat.reduceAdd, Nat.reduceLeDiff, hal, q1_, q2_]; (first | done | rfl))
    | fail
    )
  refine w_block (w_rangeF a.length (by omega) (fun i fr σ => Gat σ [24] 1 false (fr 3) (lss (firing (a.take i))) ∧ Fresh σ) ⟨by decide, rfl, rfl⟩ ?_ ⟨by simp only [go_sem, Nat.reduceEqDiff, Nat.reduceAdd, Nat.reduceLeDiff]; exact Gat.em, fun _ _ h => by cases h⟩ (by simp only [go_sem, Nat.reduceEqDiff, Nat.reduceAdd, Nat.reduceLeDiff]; first | done | rfl) (by simp only [go_sem, Nat.reduceEqDiff, Nat.reduceAdd, Nat.reduceLeDiff, hal]; first | done | rfl) ?_ ?_)
  · rintro i fr1 σ1 v h5
    refine ⟨?_, ?_, ?_⟩ <;> simp only [go_sem, Nat.reduceEqDiff, Nat.reduceAdd, Nat.reduceLeDiff] <;> exact h5
  · rintro i fr1 σ1 hi ⟨hg, hF⟩ hti hfr
    have f0_6 := hfr 6 rfl; have f0_7 := hfr 7 rfl; try (simp only [go_sem, Nat.reduceEqDiff, Nat.reduceAdd, Nat.reduceLeDiff] at f0_6); try (simp only [go_sem, Nat.reduceEqDiff, Nat.reduceAdd, Nat.reduceLeDiff] at f0_7)
    have hx := List.getElem?_eq_getElem hi
    have hy := als_at hx
    have e1 : (0 : Int) ≤ (i : Int) ∧ (i : Int) < (a.length : Int) := by omega
    have hft := firing_take hi
    have hfl := firing_len (a.take i)
    have htl : (a.take i).length ≤ i := by rw [List.length_take]; omega
    rw [hft]
    generalize a[i] = x at hy hft
    have hfb : fireB x = (x.state == 2 || x.state == 3) := rfl
    unfold al at hy
    refine w_block ?_
    (repeat' first
    | refine w_seq ?_ | refine w_rg ?_ | refine wo_nil ?_ | refine g_skU ?_ | refine g_skT ?_ | refine g_skF ?_
    | ((first | apply s_plain | apply s_void | apply s_guard | apply g_goT | apply g_goF); · simp only [go_sem, Nat.reduceEqDiff, Nat.reduceAdd, Nat.reduceLeDiff, f0_6, f0_7, hti, e1, hal, Int.toNat_natCast, hy]; (first | done | rfl))
    | ((first | apply g_T | apply g_F | apply g_gT | apply g_gF); · intro q1_; (first | intro q2_ | have q2_ := q1_); simp only [go_sem, Nat.reduceEqDiff, Nat.reduceAdd, Nat.reduceLeDiff, f0_6, f0_7, hti, e1, hal, Int.toNat_natCast, hy, q1_, q2_]; (first | done | rfl))
    | fail
    )
    refine w_condB (by simp only [go_sem, Nat.reduceEqDiff, Nat.reduceAdd, Nat.reduceLeDiff]; first | done | rfl) (fun hc => ?_) (fun hc => ?_)
    · rw [hfb, hc, if_pos rfl]
      (repeat' first
    | refine w_seq ?_ | refine w_rg ?_ | refine wo_nil ?_ | refine g_skU ?_ | refine g_skT ?_ | refine g_skF ?_
    | ((first | apply s_plain | apply s_void | apply s_guard | apply g_goT | apply g_goF); · simp only [go_sem, Nat.reduceEqDiff, Nat.reduceAdd, Nat.reduceLeDiff]; (first | done | rfl))
    | ((first | apply g_T | apply g_F | apply g_gT | apply g_gF); · intro q1_; (first | intro q2_ | have q2_ := q1_); simp only [go_sem, Nat.reduceEqDiff, Nat.reduceAdd, Nat.reduceLeDiff, q1_, q2_]; (first | done | rfl))
    | fail
    )
      refine s_gatF (d := 24) (t := 20) (x := .t 23) (os := [24]) (es := 1) (by_ := 24) (xs := lss (firing (a.take i))) (e := .sl (labs x.labels)) (by simp only [go_sem, Nat.reduceEqDiff, Nat.reduceAdd, Nat.reduceLeDiff]; exact ((hg.new _).put (by decide) _).new _) (((hF.new _ _).put (by simp only [go_sem, Nat.reduceEqDiff, Nat.reduceAdd, Nat.reduceLeDiff]; rfl) _).new _ _) (by simp only [go_sem, Nat.reduceEqDiff, Nat.reduceAdd, Nat.reduceLeDiff, srcOf, elemsOf]) rfl rfl (by rw [lss_len]; omega) ?_
      intro r2 τ2 hg2 hk4 hf4
      (repeat' first
    | refine w_seq ?_ | refine w_rg ?_ | refine wo_nil ?_ | refine g_skU ?_ | refine g_skT ?_ | refine g_skF ?_
    | ((first | apply s_plain | apply s_void | apply s_guard | apply g_goT | apply g_goF); · simp only [go_sem, Nat.reduceEqDiff, Nat.reduceAdd, Nat.reduceLeDiff]; (first | done | rfl))
    | ((first | apply g_T | apply g_F | apply g_gT | apply g_gF); · intro q1_; (first | intro q2_ | have q2_ := q1_); simp only [go_sem, Nat.reduceEqDiff, Nat.reduceAdd, Nat.reduceLeDiff, q1_, q2_]; (first | done | rfl))
    | (apply w_condX; · simp only [go_sem, Nat.reduceEqDiff, Nat.reduceAdd, Nat.reduceLeDiff]; (first | done | rfl)); (first | refine wcd_T ?_ | refine wcd_F ?_)
    | refine w_skip ?_ | refine w_exit ?_ | refine w_ret ?_
    | fail
    )
      refine ⟨?_, hf4⟩
      simp only [go_sem, Nat.reduceEqDiff, Nat.reduceAdd, Nat.reduceLeDiff]
      rw [show lss (firing (a.take i) ++ [x.labels]) = lss (firing (a.take i)) ++ [.sl (labs x.labels)] by simp [lss]]
      exact hg2
    · rw [hfb, hc, if_neg (by simp), List.append_nil]
      (repeat' first
    | refine w_seq ?_ | refine w_rg ?_ | refine wo_nil ?_ | refine g_skU ?_ | refine g_skT ?_ | refine g_skF ?_
    | ((first | apply s_plain | apply s_void | apply s_guard | apply g_goT | apply g_goF); · simp only [go_sem, Nat.reduceEqDiff, Nat.reduceAdd, Nat.reduceLeDiff]; (first | done | rfl))
    | ((first | apply g_T | apply g_F | apply g_gT | apply g_gF); · intro q1_; (first | intro q2_ | have q2_ := q1_); simp only [go_sem, Nat.reduceEqDiff, Nat.reduceAdd, Nat.reduceLeDiff, q1_, q2_]; (first | done | rfl))
    | (apply w_condX; · simp only [go_sem, Nat.reduceEqDiff, Nat.reduceAdd, Nat.reduceLeDiff]; (first | done | rfl)); (first | refine wcd_T ?_ | refine wcd_F ?_)
    | refine w_skip ?_ | refine w_exit ?_ | refine w_ret ?_
    | fail
    )
      refine ⟨?_, (hF.new _ _).put (by simp only [go_sem, Nat.reduceEqDiff, Nat.reduceAdd, Nat.reduceLeDiff]; rfl) _⟩
      simp only [go_sem, Nat.reduceEqDiff, Nat.reduceAdd, Nat.reduceLeDiff]
      exact (hg.new _).put (by decide) _
  · rintro fr1 σ1 ⟨hg, hF⟩ hfr
    have e0_2 := hfr 2 rfl; try (simp only [go_sem, Nat.reduceEqDiff, Nat.reduceAdd, Nat.reduceLeDiff] at e0_2)
    try simp only [if_true]
    rw [List.take_length] at hg
    have hz := gat_fzd hg (d := 11) (lss_fz σ1 10 _)
    (repeat' first
    | refine w_seq ?_ | refine w_rg ?_ | refine wo_nil ?_ | refine g_skU ?_ | refine g_skT ?_ | refine g_skF ?_
    | ((first | apply s_plain | apply s_void | apply s_guard | apply g_goT | apply g_goF); · simp only [go_sem, Nat.reduceEqDiff, Nat.reduceAdd, Nat.reduceLeDiff]; (first | done | rfl))
    | ((first | apply g_T | apply g_F | apply g_gT | apply g_gF); · intro q1_; (first | intro q2_ | have q2_ := q1_); simp only [go_sem, Nat.reduceEqDiff, Nat.reduceAdd, Nat.reduceLeDiff, q1_, q2_]; (first | done | rfl))
    | (apply w_condX; · simp only [go_sem, Nat.reduceEqDiff, Nat.reduceAdd, Nat.reduceLeDiff]; (first | done | rfl)); (first | refine wcd_T ?_ | refine wcd_F ?_)
    | refine w_skip ?_ | refine w_exit ?_ | refine w_ret ?_
    | fail
    )
    exact ⟨by first | exact .inr rfl | exact .inr trivial | exact .inl rfl, by simp only [go_sem, Nat.reduceEqDiff, Nat.reduceAdd, Nat.reduceLeDiff, retOf, resOf, hz]; first | done | rfl⟩
theorem a367 (D : Has lwh env) {l : List Lab} (hn : l.length ≤ 9223372036854775807) : AV env 367 [.sl (labs l)] = some (.sl (labs (fewL l))) := few_g (by rw [← d367_eq]; exact D (367, d367) (by simp [lwh])) hn
structure Sg (σ σ' : St) : Prop where
  c : ∀ x, σ.c x ≤ σ'.c x
  m : ∀ o k, k < σ.c o → σ'.m o k = σ.m o k
theorem Sg.refl : Sg σ σ := ⟨fun _ => Nat.le_refl _, fun _ _ _ => rfl⟩
theorem Sg.new (h : Sg σ σ') (s : Nat) (y : Obj) : Sg σ (σ'.new s y) :=
  ⟨fun x => Nat.le_trans (h.c x) (new_c_le _ _ _ _), fun o k hk => by
    simp only [new_m]; rw [if_neg (fun e => by have := h.c o; rw [e.2, e.1] at hk; rw [e.1] at this; omega)]; exact h.m o k hk⟩
theorem Sg.put (h : Sg σ σ') {s k : Nat} (hs : σ.c s ≤ k) (y : Option Obj) : Sg σ (σ'.put s k y) :=
  ⟨h.c, fun o' k' h3 => by
    simp only [put_m]
    rw [if_neg (fun e => by rw [e.1, e.2] at h3; omega)]
    exact h.m o' k' h3⟩
theorem a352o (D : Has lwh env) {r : Rule} {g : Nat} (hr : r.Fits) (hm : σ.m 18 g = some ⟨8, [rule r], true, true⟩) (hF : Fresh σ) :
    ∃ σ', EV env 352 [.ob 18 g 8 0 1] σ = some (.ob 39 (σ.c 39) 8 0 1, σ') ∧ σ'.m 39 (σ.c 39) = some ⟨8, [rule (cutR r)], true, true⟩ ∧ Fresh σ' ∧ Sg σ σ' := by
  have h367 := a367 D hr.l
  have b70 : ∀ (n : Nat) (k : IntKind), bound n (.sc (.int k (min (n : Int) 70))) = some (min n 70) := fun n k => bound_min rfl
  have hgo : g < σ.c 18 := hF _ _ (by rw [hm]; rfl)
  refine EV_wpR (D (352, d352) (by simp [lwh])) rfl ?_
  unfold rule at hm
  have e0 : min (1 : Int) 18 = 1 := by decide
  (repeat' first
    | refine w_seq ?_ | refine w_rg ?_ | refine wo_nil ?_ | refine g_skU ?_ | refine g_skT ?_ | refine g_skF ?_
    | ((first | apply s_plain | apply s_void | apply s_guard | apply g_goT | apply g_goF); · simp only [go_sem, Nat.reduceEqDiff, Nat.reduceAdd, Nat.reduceLeDiff, hm, mn2, e0]; (first | done | rfl))
    | ((first | apply g_T | apply g_F | apply g_gT | apply g_gF); · intro q1_; (first | intro q2_ | have q2_ := q1_); simp only [go_sem, Nat.reduceEqDiff, Nat.reduceAdd, Nat.reduceLeDiff, hm, mn2, e0, q1_, q2_]; (first | done | rfl))
    | fail
    )
  refine w_block (w_rangeF 1 (by decide) (fun i fr τ => (i = 0 ∧ fr 3 = .em ∧ τ = σ) ∨ (i = 1 ∧ fr 3 = .ob 39 (σ.c 39) 8 0 1 ∧ τ.m 39 (σ.c 39) = some ⟨8, [rule (cutR r)], true, true⟩ ∧ Fresh τ ∧ Sg σ τ)) ⟨by decide, rfl, rfl⟩ ?_ (.inl ⟨rfl, by simp only [go_sem, Nat.reduceEqDiff, Nat.reduceAdd, Nat.reduceLeDiff], rfl⟩) (by simp only [go_sem, Nat.reduceEqDiff, Nat.reduceAdd, Nat.reduceLeDiff]; first | done | rfl) (by simp only [go_sem, Nat.reduceEqDiff, Nat.reduceAdd, Nat.reduceLeDiff]; first | done | rfl) ?_ ?_)
  · rintro i fr1 σ1 v h5
    refine ⟨?_, ?_, ?_⟩ <;> simp only [go_sem, Nat.reduceEqDiff, Nat.reduceAdd, Nat.reduceLeDiff] <;> exact h5
  · rintro i fr1 σ1 hi h hti hfr
    have f0_10 := hfr 10 rfl; have f0_11 := hfr 11 rfl; try (simp only [go_sem, Nat.reduceEqDiff, Nat.reduceAdd, Nat.reduceLeDiff] at f0_10); try (simp only [go_sem, Nat.reduceEqDiff, Nat.reduceAdd, Nat.reduceLeDiff] at f0_11)
    rcases h with ⟨rfl, f3, rfl⟩ | ⟨rfl, _⟩
    · refine w_block ?_
      (repeat' first
    | refine w_seq ?_ | refine w_rg ?_ | refine wo_nil ?_ | refine g_skU ?_ | refine g_skT ?_ | refine g_skF ?_
    | ((first | apply s_plain | apply s_void | apply s_guard | apply g_goT | apply g_goF); · simp only [go_sem, Nat.reduceEqDiff, Nat.reduceAdd, Nat.reduceLeDiff, f0_10, f0_11, hti, hm, mn2, b70, h367, List.set_cons_succ]; (first | done | rfl))
    | ((first | apply g_T | apply g_F | apply g_gT | apply g_gF); · intro q1_; (first | intro q2_ | have q2_ := q1_); simp only [go_sem, Nat.reduceEqDiff, Nat.reduceAdd, Nat.reduceLeDiff, f0_10, f0_11, hti, hm, mn2, b70, h367, List.set_cons_succ, q1_, q2_]; (first | done | rfl))
    | fail
    )
      refine s_plain (v := .ob 39 (σ1.c 39) 8 0 1) (by simp only [go_sem, Nat.reduceEqDiff, Nat.reduceAdd, Nat.reduceLeDiff, f3, srcOf, elemsOf]; rfl) ?_
      (repeat' first
    | refine w_seq ?_ | refine w_rg ?_ | refine wo_nil ?_ | refine g_skU ?_ | refine g_skT ?_ | refine g_skF ?_
    | ((first | apply s_plain | apply s_void | apply s_guard | apply g_goT | apply g_goF); · simp only [go_sem, Nat.reduceEqDiff, Nat.reduceAdd, Nat.reduceLeDiff]; (first | done | rfl))
    | ((first | apply g_T | apply g_F | apply g_gT | apply g_gF); · intro q1_; (first | intro q2_ | have q2_ := q1_); simp only [go_sem, Nat.reduceEqDiff, Nat.reduceAdd, Nat.reduceLeDiff, q1_, q2_]; (first | done | rfl))
    | refine x_hit ?_ | refine x_miss (by decide) ?_
    | (apply w_condX; · simp only [go_sem, Nat.reduceEqDiff, Nat.reduceAdd, Nat.reduceLeDiff]; (first | done | rfl)); (first | refine wcd_T ?_ | refine wcd_F ?_)
    | refine w_skip ?_ | refine w_exit ?_ | refine w_ret ?_
    | fail
    )
      refine .inr ⟨rfl, by simp only [go_sem, Nat.reduceEqDiff, Nat.reduceAdd, Nat.reduceLeDiff], by simp only [go_sem, Nat.reduceEqDiff, Nat.reduceAdd, Nat.reduceLeDiff, cutR, rule, cutS], ((((((hF.new _ _).put (by simp only [go_sem, Nat.reduceEqDiff, Nat.reduceAdd, Nat.reduceLeDiff]; rfl) _).put (by simp only [go_sem, Nat.reduceEqDiff, Nat.reduceAdd, Nat.reduceLeDiff]; rfl) _).put (by simp only [go_sem, Nat.reduceEqDiff, Nat.reduceAdd, Nat.reduceLeDiff]; rfl) _).put (by simp only [go_sem, Nat.reduceEqDiff, Nat.reduceAdd, Nat.reduceLeDiff]; rfl) _).new _ _).new _ _,
        ((((((Sg.refl.new _ _).put (Nat.le_refl _) _).put (Nat.le_refl _) _).put (Nat.le_refl _) _).put (Nat.le_refl _) _).new _ _).new _ _⟩
    · omega
  · rintro fr1 σ1 h hfr
    have e0_2 := hfr 2 rfl; try (simp only [go_sem, Nat.reduceEqDiff, Nat.reduceAdd, Nat.reduceLeDiff] at e0_2)
    try simp only [if_true]
    rcases h with ⟨h0, _⟩ | ⟨_, f3, h⟩
    · cases h0
    · (repeat' first
    | refine w_seq ?_ | refine w_rg ?_ | refine wo_nil ?_ | refine g_skU ?_ | refine g_skT ?_ | refine g_skF ?_
    | ((first | apply s_plain | apply s_void | apply s_guard | apply g_goT | apply g_goF); · simp only [go_sem, Nat.reduceEqDiff, Nat.reduceAdd, Nat.reduceLeDiff, f3]; (first | done | rfl))
    | ((first | apply g_T | apply g_F | apply g_gT | apply g_gF); · intro q1_; (first | intro q2_ | have q2_ := q1_); simp only [go_sem, Nat.reduceEqDiff, Nat.reduceAdd, Nat.reduceLeDiff, f3, q1_, q2_]; (first | done | rfl))
    | (apply w_condX; · simp only [go_sem, Nat.reduceEqDiff, Nat.reduceAdd, Nat.reduceLeDiff, f3]; (first | done | rfl)); (first | refine wcd_T ?_ | refine wcd_F ?_)
    | refine w_skip ?_ | refine w_exit ?_ | refine w_ret ?_
    | fail
    )
      exact ⟨by simp, by simp only [go_sem, Nat.reduceEqDiff, Nat.reduceAdd, Nat.reduceLeDiff, retOf, resOf], h⟩
end

end
section
theorem word_value {s : ByteArray} (h : wordB s = true) : valueB s = true := by
  unfold wordB at h
  unfold valueB filled
  simp only [Bool.and_eq_true, Bool.not_eq_true'] at h ⊢
  refine ⟨⟨by simpa using h.1.1, h.1.2⟩, ?_⟩
  have h3 := h.2
  unfold hasB at h3 ⊢
  rw [decide_eq_false_iff_not] at h3 ⊢
  intro hc
  apply h3
  have hn := found_no (p := fun i => oddW (byteAt s i)) (n := s.size) h3
  rw [found_none fun j hj => ?_] at hc
  · omega
  · have := hn j hj
    unfold oddW at this
    unfold oddV
    simp only [Bool.and_eq_false_iff, Bool.or_eq_false_iff, decide_eq_false_iff_not, bne_eq_false_iff_eq, Bool.or_eq_false_iff] at this ⊢
    omega
theorem alert_may {n : ByteArray} (h : wordB n = true) : mayB (alertT, n) = true := by
  unfold mayB
  rw [word_value h, Bool.and_true]
  show nameB alertT = true
  decide +kernel
theorem rightL_nil : rightL [] = true := by decide +kernel
theorem right_one {n : ByteArray} (h : wordB n = true) : rightL [(alertT, n)] = true := by
  refine right_iff.2 ⟨fun m hm => ?_, ?_, by simp⟩
  · simp only [List.mem_singleton] at hm
    rw [hm]; exact alert_may h
  · unfold Rising
    simp
structure RightRule (R : Rule) : Prop where
  n : wordB R.name = true
  m : wordB R.metric = true
  h1 : 1 ≤ R.how
  h5 : R.how ≤ 5
  t1 : 1 ≤ R.tries
  t10 : R.tries ≤ 10
  f : timeB R.for_ = true
  k : timeB R.keep = true
  l4 : R.labels.length ≤ 4
  l : rightL R.labels = true
theorem rightR_iff {R : Rule} (h : rightR R = true) : RightRule R := by
  unfold rightR restR at h
  simp only [Bool.and_eq_true, decide_eq_true_eq] at h
  obtain ⟨⟨⟨⟨⟨⟨⟨⟨⟨a1, a2⟩, a3⟩, a4⟩, ⟨⟨b1, b2⟩, b3⟩, b4⟩, a6⟩, a7⟩, a8⟩, a9⟩, a10⟩ := h
  exact ⟨a1, a2, a3, a4, b3, b4, b1, b2, by omega, a9⟩
def lsOf (R : Rule) : List Lab := sortedL (overL R.labels [(alertT, R.name)])
theorem labels_fine {R : Rule} (h : rightR R = true) : labelsR R [] = (lsOf R, 0) ∧ rightL (lsOf R) = true ∧ getB (lsOf R) alertT = R.name := by
  have H := rightR_iff h
  have e1 : withL [] R.labels = (R.labels, 0) := by
    rw [withL_right rightL_nil H.l]
    have : overL [] R.labels = R.labels := by unfold overL; simp
    rw [this, if_neg (by have := H.l4; omega), sorted_id (right_iff.1 H.l).2.1]
  have h1 := right_one H.n
  have e2 : withL R.labels [(alertT, R.name)] = (lsOf R, 0) := by
    rw [withL_right H.l h1, if_neg]
    · rfl
    · have := List.length_filter_le (missB [(alertT, R.name)]) R.labels
      have := H.l4
      unfold overL
      simp only [List.length_append, List.length_cons, List.length_nil]
      omega
  have e3 : labelsR R [] = (lsOf R, 0) := by
    unfold labelsR
    rw [h, e1]
    simp only [Bool.not_true, Bool.false_eq_true, if_false, bne_self_eq_false]
    exact e2
  refine ⟨e3, ?_, ?_⟩
  · have := labelsR_right (r := R) (l := []) (by rw [e3])
    rw [e3] at this; exact this
  · have hg : getB [(alertT, R.name)] alertT = R.name := get_hit (m := (alertT, R.name)) (right_iff.1 h1).2.1.apart (by simp)
    unfold lsOf
    rw [get_over H.l h1, hg, may_value (m := (alertT, R.name)) (alert_may H.n)]
    simp
theorem cmpA_same {a b : Al} (h1 : a.rule = b.rule) (h2 : a.labels = b.labels) : cmpA a b = 0 := (cmpA_zero a b).2 ⟨h1, by rw [h2]⟩
def soleA (R : Rule) (t : Int) : Al := ⟨R.name, lsOf R, 2, t, 1, 0⟩
def aOf (R : Rule) (was : Bool) (t : Int) : List Al := if was then [soleA R t] else []
theorem pos_one {R : Rule} {a : Al} (h1 : a.rule = R.name) (h2 : a.labels = lsOf R) : posA [a] (freshA R (lsOf R)) = 0 := by
  unfold posA
  rw [if_neg (by rw [cmpA_same (b := freshA R (lsOf R)) h1 h2]; omega)]
theorem has_one {R : Rule} {a : Al} (h1 : a.rule = R.name) (h2 : a.labels = lsOf R) : hasA [a] (freshA R (lsOf R)) = true := by
  unfold hasA
  rw [pos_one h1 h2]
  have : cmpA a (freshA R (lsOf R)) = 0 := cmpA_same h1 h2
  simp [nthA, this]
theorem has_nil (t : Al) : hasA [] t = false := by simp [hasA]
theorem ruled_one {R : Rule} (h : rightR R = true) : ruledB [R] = true := by
  unfold ruledB badR
  simp [h]
theorem right_none {R : Rule} (h : rightW [R] [] = true) : rightR R = true := by
  unfold rightW ruledB badR at h
  simpa using h
theorem right_nil {R : Rule} (h : rightR R = true) : rightW [R] [] = true := by
  unfold rightW
  rw [ruled_one h]
  simp
theorem rightW_one {R : Rule} {a : Al} (h : rightR R = true) (h1 : a.rule = R.name) (h2 : a.labels = lsOf R) (h3 : 1 ≤ a.state ∧ a.state ≤ 3) (h4 : timeB a.since = true) (h5 : 1 ≤ a.tries ∧ a.tries ≤ 10)
    (h6 : (if a.state == 3 then decide (a.ended ≥ a.since) && timeB a.ended else a.ended == 0) = true) : rightW [R] [a] = true := by
  obtain ⟨e, hl, hg⟩ := labels_fine h
  unfold rightW
  rw [ruled_one h]
  have hm : mayA [R] a = true := by
    unfold mayA
    rw [h6, Bool.and_true, h2, hl, hg, h4, h1]
    have : isOf [R] R.name = true := by simp [isOf]
    rw [this]
    simp
    omega
  simp [badA, nthA, hm]
theorem asked_one {R : Rule} {l : List Al} {now : Int} (h1 : rightW [R] l = true) (hn : timeB now = true) (h2 : pastW l now = false) : askedW [R] l now = 0 := by
  unfold askedW
  rw [h1, hn, h2]
  simp
theorem take_one {R : Rule} {l : List Al} {v now : Int} (h : rightR R = true) (h1 : rightW [R] l = true) (hn : timeB now = true) (h2 : pastW l now = false) (hv : -1099511627776 ≤ v ∧ v ≤ 1099511627776)
    (hl : (ruleW l [] R (lsOf R) v now).1.length ≤ 64) :
    takeW [R] l ⟨R.metric, [], v⟩ now = ((ruleW l [] R (lsOf R) v now).1, (ruleW l [] R (lsOf R) v now).2, 0) := by
  obtain ⟨e, hr, hg⟩ := labels_fine h
  have hb : badS ⟨R.metric, [], v⟩ = false := by
    unfold badS
    rw [(rightR_iff h).m, rightL_nil]
    simp
    omega
  have hs : stepT ⟨R.metric, [], v⟩ now (l, []) R = ruleW l [] R (lsOf R) v now := by
    unfold stepT
    rw [e]
    simp
  have he : errT ⟨R.metric, [], v⟩ now (l, []) R = 0 := by
    unfold errT
    rw [hs, e]
    simp
    omega
  unfold takeW
  rw [asked_one h1 hn h2, hb]
  simp only [bne_self_eq_false, Bool.false_eq_true, if_false]
  unfold goT
  rw [he, hs]
  simp only [bne_self_eq_false, Bool.false_eq_true, if_false]
  rfl
theorem take_plain {R : Rule} {t v now : Int} {was : Bool} (h : rightR R = true) (hf : R.for_ = 0) (hk : R.keep = 0) (ht : R.tries = 1) (hn : timeB now = true) (ht0 : timeB t = true) (htn : t ≤ now) (hv : -1099511627776 ≤ v ∧ v ≤ 1099511627776) :
    takeW [R] (aOf R was t) ⟨R.metric, [], v⟩ now = (aOf R (firesB R.how v R.limit) (if was then t else now), if (firesB R.how v R.limit) == was then [] else [⟨lsOf R, firesB R.how v R.limit⟩], 0) := by
  have hnow : 0 ≤ now := by
    unfold timeB at hn
    simp only [Bool.and_eq_true, decide_eq_true_eq] at hn
    omega
  have hr : rightW [R] (aOf R was t) = true := by
    cases was with
    | false => exact right_nil h
    | true => exact rightW_one h rfl rfl ⟨by show (1:Int) ≤ 2; omega, by show (2:Int) ≤ 3; omega⟩ ht0 ⟨by show (1:Int) ≤ 1; omega, by show (1:Int) ≤ 10; omega⟩ (by rfl)
  have hp : pastW (aOf R was t) now = false := by
    cases was with
    | false => rfl
    | true =>
      simp only [pastW, aOf, soleA, if_true, List.any_cons, List.any_nil, Bool.or_false, Bool.or_eq_false_iff, decide_eq_false_iff_not]
      omega
  have hw : ruleW (aOf R was t) [] R (lsOf R) v now = (aOf R (firesB R.how v R.limit) (if was then t else now), if (firesB R.how v R.limit) == was then [] else [⟨lsOf R, firesB R.how v R.limit⟩]) := by
    unfold ruleW
    rw [h, Bool.true_and]
    cases firesB R.how v R.limit <;> cases was
    · simp [aOf, has_nil]
    · simp only [aOf, if_true, Bool.false_eq_true, if_false]
      rw [has_one (a := soleA R t) rfl rfl, pos_one (a := soleA R t) rfl rfl]
      simp [nthA, soleA, endA, overB, hk, delA]
    · simp only [aOf, if_true, Bool.false_eq_true, if_false]
      rw [has_nil]
      simp [posA, insA, fireA, freshA, bump, fireT, ht, hf, soleA]
    · simp only [aOf, if_true]
      rw [has_one (a := soleA R t) rfl rfl, pos_one (a := soleA R t) rfl rfl]
      simp [nthA, soleA, fireA]
  rw [take_one h hr hn hp hv ?_, hw]
  rw [hw]
  show (aOf R _ _).length ≤ 64
  unfold aOf
  split <;> simp

end
section
attribute [local go_sem ↓] put_none
attribute [local go_sem ↓] e_mv e_pick e_bin e_eqs e_beq e_un e_cvi e_str e_s2b e_b2s e_box e_build e_bsl e_ld e_st e_nck e_mkf e_slcS e_slcL e_fa e_fld e_ia e_iaa e_ix e_ixa e_ext e_lenS e_lenL e_mnmx e_app e_appb e_bbx e_msl e_clr e_call e_callv e_icall e_slcA e_mkm e_mput e_mget e_mlen e_mdel pa_t pa_c pa_f slcSP_str hiOf_some hiOf_none loOf_some loOf_none set_eq set_ne
attribute [local go_sem] pv pv1 simple frOf_0 frOf_1 frOf_2 frOf_3 frOf_4 frOf_5 ne_eq not_false_eq_true if_true Bool.false_eq_true if_false pbin punary Option.map_some Option.bind_some pick_and pick_or opt_true Bool.true_and Bool.and_self Bool.and_true Bool.true_or Bool.false_or Bool.not_true Bool.not_false callE pcall_eq List.map_cons List.map_nil List.append_nil List.nil_append List.cons_append mapM_cons' mapM_nil' dep_eq fz_sc fz_sl fz_em fz_fn fz_fp fz_agg fz_tu fz_bx fz_ob Nat.lt_irrefl Nat.zero_lt_one Nat.lt_add_one flat clL cl Bool.or_true okc_sc okc_em okc_sl okc_ob okc_bx okc_fp okc_fn okc_agg okc_ifc cells_agg cells_sc cells_sl cells_em cells_ob cells_fn cells_bx cells_fp List.length_cons List.length_nil Nat.zero_add and_self true_and and_true new_m new_c put_m put_c nil_m nil_c nil_mm new_mm put_mm newM_m newM_c newM_mm putM_m putM_c putM_mm mkeyV_1 mkeyV_2 mapAt_eq deref List.getElem?_cons_zero List.getElem?_cons_succ List.drop_zero List.drop_succ_cons List.take_succ_cons List.take_zero Nat.le_refl false_and and_false decide_true decide_false lenP_em lenP_nil lenP_sl lenP_ob Int.ofNat_zero splice fillP fillE List.modify_zero_cons List.replicate_succ List.replicate_zero List.set_cons_zero List.drop_zero ba_data ba_size ba_toList ba_extract ba_append List.toList_toArray
def d346 : Def := (.code 3 [.tmp 6] (.seq (.rg false [⟨.some 3, .none, .box (.t 0)⟩, ⟨.some 6, .none, .mv (.c (.bool false))⟩]) (.seq (.rg false [⟨.some 17, .none, .ld (.some 8) (.t 3)⟩, ⟨.some 18, .none, .bsl 8 (.agg #[.string ⟨#[]⟩, .string ⟨#[]⟩, .int .i64 0, .int .i64 0, .int .i64 0, .int .i64 0, .int .i64 0, .slice .none 0 0]) 1 [(0, .t 17)]⟩, ⟨.some 19, .none, .call 352 .opn [.t 18]⟩, ⟨.some 7, .none, .mv (.t 19)⟩]) (.seq (.rg false [⟨.some 20, .none, .mv (.t 7)⟩, ⟨.some 21, .none, .ia 8 (.t 20) (.c (.int .i64 0))⟩, ⟨.some 22, .none, .ld (.some 8) (.t 21)⟩, ⟨.none, .none, .st 8 (.t 3) (.t 22)⟩]) (.seq (.rg false [⟨.some 23, .none, .fa 4 (.t 3)⟩, ⟨.none, .none, .st 1 (.t 23) (.c (.int .i64 0))⟩, ⟨.some 24, .none, .fa 5 (.t 3)⟩, ⟨.none, .none, .st 1 (.t 24) (.c (.int .i64 0))⟩, ⟨.some 25, .none, .fa 6 (.t 3)⟩, ⟨.none, .none, .st 1 (.t 25) (.c (.int .i64 1))⟩]) (.seq (.rg false [⟨.some 26, .none, .mv (.t 7)⟩, ⟨.some 27, .none, .ld (.some 8) (.t 3)⟩, ⟨.some 28, .none, .ia 8 (.t 26) (.c (.int .i64 0))⟩, ⟨.none, .none, .st 8 (.t 28) (.t 27)⟩]) (.seq (.seq (.rg false [⟨.some 29, .none, .mv (.t 7)⟩, ⟨.some 30, .none, .call 353 .pure [.t 29, .c (.slice .none 0 0)]⟩, ⟨.some 31, .none, .un .not (.t 30)⟩]) (.cond (.t 31) (.seq (.rg false [⟨.some 32, .none, .call 354 .pure []⟩, ⟨.some 6, .none, .mv (.t 32)⟩]) .ret) .skip)) (.seq (.rg false [⟨.some 8, .none, .mv (.c (.slice .none 0 0))⟩]) (.seq (.rg false [⟨.some 9, .none, .mv (.c (.int .i64 0))⟩, ⟨.some 10, .none, .mv (.c (.bool false))⟩]) (.seq (.seq (.rg false [⟨.some 33, .none, .mv (.t 1)⟩, ⟨.some 34, .none, .lenL (.t 33)⟩, ⟨.some 35, .none, .mv (.c (.int .i64 0))⟩]) (.block 0 (.loop (.seq (.rg false [⟨.some 36, .none, .bin .lss (.t 35) (.t 34)⟩]) (.seq (.cond (.t 36) .skip (.exit 0)) (.seq (.block 1 (.seq (.rg false [⟨.some 37, .none, .mv (.t 35)⟩, ⟨.some 38, .none, .ia 1 (.t 33) (.t 35)⟩, ⟨.some 39, .none, .ld .none (.t 38)⟩, ⟨.some 11, .none, .mv (.t 37)⟩, ⟨.some 12, .none, .mv (.t 39)⟩]) (.seq (.seq (.rg false [⟨.some 40, .none, .mv (.t 11)⟩, ⟨.some 41, .none, .bin .geq (.t 40) (.c (.int .i64 20))⟩]) (.cond (.t 41) (.exit 0) .skip)) (.seq (.seq (.rg false [⟨.some 42, .none, .mv (.t 11)⟩, ⟨.some 43, .none, .mv (.t 2)⟩, ⟨.some 44, .none, .lenL (.t 43)⟩, ⟨.some 45, .none, .bin .lss (.t 42) (.t 44)⟩]) (.cond (.t 45) (.rg false [⟨.some 46, .none, .mv (.t 9)⟩, ⟨.some 47, .none, .mv (.t 2)⟩, ⟨.some 48, .none, .mv (.t 11)⟩, ⟨.some 49, .none, .ia 1 (.t 47) (.t 48)⟩, ⟨.some 50, .none, .ld .none (.t 49)⟩, ⟨.some 51, .none, .bin .rem (.t 50) (.c (.int .i64 5000))⟩, ⟨.some 52, .none, .bin .add (.t 51) (.c (.int .i64 5000))⟩, ⟨.some 53, .none, .bin .rem (.t 52) (.c (.int .i64 5000))⟩, ⟨.some 54, .none, .bin .add (.t 46) (.t 53)⟩, ⟨.some 9, .none, .mv (.t 54)⟩]) .skip)) (.seq (.rg false [⟨.some 55, .none, .mv (.t 12)⟩, ⟨.some 56, .none, .mnmx true [.t 55, .c (.int .i64 (-1099511627776))]⟩, ⟨.some 57, .none, .mnmx false [.t 56, .c (.int .i64 1099511627776)]⟩, ⟨.some 12, .none, .mv (.t 57)⟩]) (.seq (.rg false [⟨.some 58, .none, .fa 2 (.t 3)⟩, ⟨.some 59, .none, .ld .none (.t 58)⟩, ⟨.some 60, .none, .bin .eql (.t 59) (.c (.int .i64 1))⟩, ⟨.some 61, .none, .mv (.t 60)⟩, ⟨.some 62, .some (61, true), .mv (.t 12)⟩, ⟨.some 63, .some (61, true), .fa 3 (.t 3)⟩, ⟨.some 64, .some (61, true), .ld .none (.t 63)⟩, ⟨.some 65, .some (61, true), .bin .gtr (.t 62) (.t 64)⟩, ⟨.some 66, .none, .pick (.t 61) (.t 65) (.c (.bool false))⟩, ⟨.some 67, .none, .mv (.t 66)⟩, ⟨.some 68, .some (67, false), .fa 2 (.t 3)⟩, ⟨.some 69, .some (67, false), .ld .none (.t 68)⟩, ⟨.some 70, .some (67, false), .bin .eql (.t 69) (.c (.int .i64 2))⟩, ⟨.some 71, .some (67, false), .mv (.t 70)⟩, ⟨.some 72, .some (71, true), .mv (.t 12)⟩, ⟨.some 73, .some (71, true), .fa 3 (.t 3)⟩, ⟨.some 74, .some (71, true), .ld .none (.t 73)⟩, ⟨.some 75, .some (71, true), .bin .geq (.t 72) (.t 74)⟩, ⟨.some 76, .some (67, false), .pick (.t 71) (.t 75) (.c (.bool false))⟩, ⟨.some 77, .none, .pick (.t 67) (.c (.bool true)) (.t 76)⟩, ⟨.some 78, .none, .mv (.t 77)⟩, ⟨.some 79, .some (78, false), .fa 2 (.t 3)⟩, ⟨.some 80, .some (78, false), .ld .none (.t 79)⟩, ⟨.some 81, .some (78, false), .bin .eql (.t 80) (.c (.int .i64 3))⟩, ⟨.some 82, .some (78, false), .mv (.t 81)⟩, ⟨.some 83, .some (82, true), .mv (.t 12)⟩, ⟨.some 84, .some (82, true), .fa 3 (.t 3)⟩, ⟨.some 85, .some (82, true), .ld .none (.t 84)⟩, ⟨.some 86, .some (82, true), .bin .lss (.t 83) (.t 85)⟩, ⟨.some 87, .some (78, false), .pick (.t 82) (.t 86) (.c (.bool false))⟩, ⟨.some 88, .none, .pick (.t 78) (.c (.bool true)) (.t 87)⟩, ⟨.some 89, .none, .mv (.t 88)⟩, ⟨.some 90, .some (89, false), .fa 2 (.t 3)⟩, ⟨.some 91, .some (89, false), .ld .none (.t 90)⟩, ⟨.some 92, .some (89, false), .bin .eql (.t 91) (.c (.int .i64 4))⟩, ⟨.some 93, .some (89, false), .mv (.t 92)⟩, ⟨.some 94, .some (93, true), .mv (.t 12)⟩, ⟨.some 95, .some (93, true), .fa 3 (.t 3)⟩, ⟨.some 96, .some (93, true), .ld .none (.t 95)⟩, ⟨.some 97, .some (93, true), .bin .leq (.t 94) (.t 96)⟩, ⟨.some 98, .some (89, false), .pick (.t 93) (.t 97) (.c (.bool false))⟩, ⟨.some 99, .none, .pick (.t 89) (.c (.bool true)) (.t 98)⟩, ⟨.some 100, .none, .mv (.t 99)⟩, ⟨.some 101, .some (100, false), .fa 2 (.t 3)⟩, ⟨.some 102, .some (100, false), .ld .none (.t 101)⟩, ⟨.some 103, .some (100, false), .bin .eql (.t 102) (.c (.int .i64 5))⟩, ⟨.some 104, .some (100, false), .mv (.t 103)⟩, ⟨.some 105, .some (104, true), .mv (.t 12)⟩, ⟨.some 106, .some (104, true), .fa 3 (.t 3)⟩, ⟨.some 107, .some (104, true), .ld .none (.t 106)⟩, ⟨.some 108, .some (104, true), .bin .eql (.t 105) (.t 107)⟩, ⟨.some 109, .some (100, false), .pick (.t 104) (.t 108) (.c (.bool false))⟩, ⟨.some 110, .none, .pick (.t 100) (.c (.bool true)) (.t 109)⟩, ⟨.some 13, .none, .mv (.t 110)⟩]) (.seq (.rg false [⟨.some 112, .none, .mv (.t 7)⟩, ⟨.some 113, .none, .mv (.t 8)⟩, ⟨.some 114, .none, .fa 1 (.t 3)⟩, ⟨.some 115, .none, .ld .none (.t 114)⟩, ⟨.some 116, .none, .mv (.t 12)⟩, ⟨.some 117, .none, .build (.agg #[.string ⟨#[]⟩, .slice .none 0 0, .int .i64 0]) [(0, (1, .t 115)), (2, (1, .t 116))]⟩, ⟨.some 118, .none, .mv (.t 9)⟩, ⟨.some 119, .none, .call 355 .pure [.t 112, .t 113, .t 117, .t 118]⟩, ⟨.some 111, .none, .mv (.t 119)⟩, ⟨.some 120, .none, .ext (.t 111) 0⟩, ⟨.some 121, .none, .ext (.t 111) 1⟩, ⟨.some 122, .none, .ext (.t 111) 2⟩, ⟨.some 14, .none, .mv (.t 120)⟩, ⟨.some 15, .none, .mv (.t 121)⟩, ⟨.some 16, .none, .mv (.t 122)⟩]) (.seq (.seq (.rg false [⟨.some 123, .none, .mv (.t 16)⟩, ⟨.some 124, .none, .bin .neq (.t 123) (.c (.int .i64 0))⟩, ⟨.some 125, .none, .mv (.t 124)⟩, ⟨.some 126, .some (125, false), .mv (.t 14)⟩, ⟨.some 127, .some (125, false), .call 356 .pure [.t 126]⟩, ⟨.some 128, .some (125, false), .lenL (.t 127)⟩, ⟨.some 129, .some (125, false), .mv (.t 14)⟩, ⟨.some 130, .some (125, false), .lenL (.t 129)⟩, ⟨.some 131, .some (125, false), .bin .neq (.t 128) (.t 130)⟩, ⟨.some 132, .none, .pick (.t 125) (.c (.bool true)) (.t 131)⟩, ⟨.some 133, .none, .mv (.t 132)⟩, ⟨.some 134, .some (133, false), .mv (.t 14)⟩, ⟨.some 135, .some (133, false), .lenL (.t 134)⟩, ⟨.some 136, .some (133, false), .bin .eql (.t 135) (.c (.int .i64 1))⟩, ⟨.some 137, .some (133, false), .mv (.t 13)⟩, ⟨.some 138, .some (133, false), .beq true (.t 136) (.t 137)⟩, ⟨.some 139, .none, .pick (.t 133) (.c (.bool true)) (.t 138)⟩, ⟨.some 140, .none, .mv (.t 139)⟩, ⟨.some 141, .some (140, false), .mv (.t 15)⟩, ⟨.some 142, .some (140, false), .lenL (.t 141)⟩, ⟨.some 143, .some (140, false), .bin .eql (.t 142) (.c (.int .i64 1))⟩, ⟨.some 144, .some (140, false), .mv (.t 13)⟩, ⟨.some 145, .some (140, false), .mv (.t 10)⟩, ⟨.some 146, .some (140, false), .beq true (.t 144) (.t 145)⟩, ⟨.some 147, .some (140, false), .beq true (.t 143) (.t 146)⟩, ⟨.some 148, .none, .pick (.t 140) (.c (.bool true)) (.t 147)⟩, ⟨.some 149, .none, .mv (.t 148)⟩, ⟨.some 150, .some (149, false), .mv (.t 15)⟩, ⟨.some 151, .some (149, false), .lenL (.t 150)⟩, ⟨.some 152, .some (149, false), .bin .eql (.t 151) (.c (.int .i64 1))⟩, ⟨.some 153, .some (149, false), .mv (.t 152)⟩, ⟨.some 154, .some (153, true), .mv (.t 15)⟩, ⟨.some 155, .some (153, true), .ia 2 (.t 154) (.c (.int .i64 0))⟩, ⟨.some 156, .some (153, true), .fa 1 (.t 155)⟩, ⟨.some 157, .some (153, true), .ld .none (.t 156)⟩, ⟨.some 158, .some (153, true), .mv (.t 13)⟩, ⟨.some 159, .some (153, true), .beq true (.t 157) (.t 158)⟩, ⟨.some 160, .some (149, false), .pick (.t 153) (.t 159) (.c (.bool false))⟩, ⟨.some 161, .none, .pick (.t 149) (.c (.bool true)) (.t 160)⟩]) (.cond (.t 161) (.seq (.rg false [⟨.some 6, .none, .mv (.c (.bool false))⟩]) .ret) .skip)) (.rg false [⟨.some 162, .none, .mv (.t 14)⟩, ⟨.some 163, .none, .mv (.t 13)⟩, ⟨.some 8, .none, .mv (.t 162)⟩, ⟨.some 10, .none, .mv (.t 163)⟩]))))))))) (.rg false [⟨.some 164, .none, .bin .add (.t 35) (.c (.int .i64 1))⟩, ⟨.some 35, .none, .mv (.t 164)⟩]))))))) (.seq (.rg false [⟨.some 165, .none, .call 354 .pure []⟩, ⟨.some 6, .none, .mv (.t 165)⟩]) .ret)))))))))))
def lwi : List (Nat × Def) := [(346, d346)]
structure Ww (env : Nat → Option Def) : Prop where
  b : Wb env
  w : Has lwa env
  u : Has lwb env
  v : Has lwc env
  d : Has lwd env
  e : Has lwe env
  g : Has lwg env
  h : Has lwh env
  al : AV env 354 [] = some (.sc (.bool true))
def clampW (v : Int) : Int := min (if (-1099511627776 : Int) > v then -1099511627776 else v) 1099511627776
theorem clampW_rng (v : Int) : -1099511627776 ≤ clampW v ∧ clampW v ≤ 1099511627776 := by
  unfold clampW
  split <;> omega
theorem fires_five {h : Int} (h1 : 1 ≤ h) (h5 : h ≤ 5) (v m : Int) : ((h == 1 && decide (v > m)) || (h == 2 && decide (v ≥ m)) || (h == 3 && decide (v < m)) || (h == 4 && decide (v ≤ m)) || (h == 5 && (v == m))) = firesB h v m := by
  have : h = 1 ∨ h = 2 ∨ h = 3 ∨ h = 4 ∨ h = 5 := by omega
  rcases this with rfl | rfl | rfl | rfl | rfl <;> simp [firesB]
theorem rem_rng (g m : Int) (hm : 0 < m) (hb : m ≤ 1000000) : 0 ≤ (IntKind.i64.wrap (g.tmod m + m)).tmod m ∧ (IntKind.i64.wrap (g.tmod m + m)).tmod m < m := by
  have h1 := Int.tmod_lt_of_pos g hm
  have h2 := Int.lt_tmod_of_pos g hm
  have hw : IntKind.i64.wrap (g.tmod m + m) = g.tmod m + m := by rw [IntKind.wrap_i64]; omega
  rw [hw]
  exact ⟨Int.tmod_nonneg _ (by omega), Int.tmod_lt_of_pos _ hm⟩
def plainR (r : Rule) : Rule := { cutR r with for_ := 0, keep := 0, tries := 1 }
theorem plainR_fits (r : Rule) : (plainR r).Fits := ⟨(cutR_fits r).n, (cutR_fits r).m, (cutR_fits r).l, (cutR_fits r).s⟩
section
variable {env : Nat → Option Def} {fr : Fr} {σ σ' σ'' : St} {K : Fr → St → Prop} {Q : X → Fr → St → Prop} {p : PV} {bs : List UInt8}
theorem s_callW {d f : Nat} {args : List PA} {vz : List PV} {r : PV} {ops : List POp} (h1 : (args.map (pa fr)).mapM (fz σ dep) = some vz) (h2 : AV env f vz = some r)
    (h : ∀ σ', (∀ o g x, σ.m o g = some x → ∃ wr, σ'.m o g = some { x with wr := wr }) → (∀ d p, fz σ' d p = fz σ d p) → Wos env ops K (fr.set d r) σ') :
    Wos env (⟨some d, none, .call f .pure args⟩ :: ops) K fr σ := by
  have h3 : callE (EV env) f .pure (args.map (pa fr)) σ = some (r, σ) ∨ callE (EV env) f .pure (args.map (pa fr)) σ = some (r, σ.lock) := by
    simp only [callE, pcall_eq, h1, Option.bind_some, h2, Bool.false_eq_true, if_false]
    split
    · exact .inl rfl
    · exact .inr rfl
  rcases h3 with h3 | h3
  · exact s_plain (v := r) (σ' := σ) h3 (h σ (fun o g x hx => ⟨x.wr, hx⟩) fun _ _ => rfl)
  · refine s_plain (v := r) (σ' := σ.lock) h3 (h σ.lock (fun o g x hx => ⟨false, ?_⟩) fun d p => fz_lock σ d p)
    show (σ.m o g).map _ = _
    rw [hx]; rfl
theorem wos_mid {ops : List POp} (J : Fr → St → Prop) (h1 : Wos env ops J fr σ) (h2 : ∀ fr σ, J fr σ → K fr σ) : Wos env ops K fr σ := by
  obtain ⟨f, s, h3, h4⟩ := h1
  exact ⟨f, s, h3, h2 _ _ h4⟩
theorem aOf_fits {R : Rule} (hR : R.Fits) (h : rightR R = true) (was : Bool) (t : Int) : (aOf R was t).length ≤ 9223372036854775807 ∧ ∀ x ∈ aOf R was t, x.Fits := by
  obtain ⟨_, hr, _⟩ := labels_fine h
  unfold aOf
  split
  · refine ⟨by simp, fun x hx => ?_⟩
    rw [List.mem_singleton.1 hx]
    exact ⟨hR.n, by have := right_len hr; show (lsOf R).length ≤ _; omega, right_smalls hr⟩
  · exact ⟨by simp, fun x hx => by cases hx⟩
theorem a346 (Z : Ww env) (L : Has lwi env) {r : Rule} {vs gs : List Int} (hr : r.Fits) (hv : vs.length ≤ 9223372036854775807) (hg : gs.length ≤ 9223372036854775807) : AV env 346 [rule r, .sl (numsW vs), .sl (numsW gs)] = some (.sc (.bool true)) := by
  have hvl := numsW_len vs
  have hgl := numsW_len gs
  have hal := Z.al
  refine AV_wp (L (346, d346) (by simp [lwi])) rfl ?_
  unfold rule
  (repeat' first
    | refine w_seq ?_ | refine w_rg ?_ | refine wo_nil ?_ | refine g_skU ?_ | refine g_skT ?_ | refine g_skF ?_
    | ((first | apply s_plain | apply s_void | apply s_guard | apply g_goT | apply g_goF); · simp only [go_sem, Nat.reduceEqDiff, Nat.reduceAdd, Nat.reduceLeDiff]; (first | done | rfl))
    | ((first | apply g_T | apply g_F | apply g_gT | apply g_gF); · intro q1_; (first | intro q2_ | have q2_ := q1_); simp only [go_sem, Nat.reduceEqDiff, Nat.reduceAdd, Nat.reduceLeDiff, q1_, q2_]; (first | done | rfl))
    | fail
    )
  refine wos_j (fun fr τ => (fr 1 = .sl (numsW vs) ∧ fr 2 = .sl (numsW gs) ∧ fr 3 = .bx 2000003 0 8 0 0 ∧ fr 18 = .ob 18 0 8 0 1) ∧ (τ.m 2000003 0 = some ⟨8, [rule r], true, true⟩ ∧ 0 < τ.c 2000003 ∧ τ.m 18 0 = some ⟨8, [rule r], true, true⟩ ∧ Fresh τ))
    ⟨⟨by simp only [go_sem, Nat.reduceEqDiff, Nat.reduceAdd, Nat.reduceLeDiff], by simp only [go_sem, Nat.reduceEqDiff, Nat.reduceAdd, Nat.reduceLeDiff], by simp only [go_sem, Nat.reduceEqDiff, Nat.reduceAdd, Nat.reduceLeDiff], by simp only [go_sem, Nat.reduceEqDiff, Nat.reduceAdd, Nat.reduceLeDiff]⟩, by simp only [go_sem, Nat.reduceEqDiff, Nat.reduceAdd, Nat.reduceLeDiff, rule], by simp only [go_sem, Nat.reduceEqDiff, Nat.reduceAdd, Nat.reduceLeDiff], by simp only [go_sem, Nat.reduceEqDiff, Nat.reduceAdd, Nat.reduceLeDiff, rule], (Fresh.new (fun o g h => by cases h) _ _).new _ _⟩ ?_
  rintro fr1 σ1 ⟨⟨f1, f2, f3, f18⟩, m3, c3, m18, hF⟩
  obtain ⟨τ, q1, q2, q3, q4⟩ := a352o Z.h hr m18 hF
  refine s_callO (by simp only [go_sem, Nat.reduceEqDiff, Nat.reduceAdd, Nat.reduceLeDiff, f18]; exact q1) ?_
  have m32 := (q4.m 2000003 0 c3).trans m3
  generalize σ1.c 39 = n39 at q2
  unfold rule at m32 q2
  (repeat' first
    | refine w_seq ?_ | refine w_rg ?_ | refine wo_nil ?_ | refine g_skU ?_ | refine g_skT ?_ | refine g_skF ?_
    | ((first | apply s_plain | apply s_void | apply s_guard | apply g_goT | apply g_goF); · simp only [go_sem, Nat.reduceEqDiff, Nat.reduceAdd, Nat.reduceLeDiff, f1, f2, f3, m32, q2, List.set_cons_succ, Int.toNat_zero]; (first | done | rfl))
    | ((first | apply g_T | apply g_F | apply g_gT | apply g_gF); · intro q1_; (first | intro q2_ | have q2_ := q1_); simp only [go_sem, Nat.reduceEqDiff, Nat.reduceAdd, Nat.reduceLeDiff, f1, f2, f3, m32, q2, List.set_cons_succ, Int.toNat_zero, q1_, q2_]; (first | done | rfl))
    | fail
    )
  refine wos_j (fun fr τ => (fr 1 = .sl (numsW vs) ∧ fr 2 = .sl (numsW gs) ∧ fr 3 = .bx 2000003 0 8 0 0 ∧ fr 7 = .ob 39 n39 8 0 1 ∧ fr 29 = .ob 39 n39 8 0 1) ∧ (τ.m 2000003 0 = some ⟨8, [rule (plainR r)], true, true⟩ ∧ τ.m 39 n39 = some ⟨8, [rule (plainR r)], true, true⟩))
    ⟨⟨by simp only [go_sem, Nat.reduceEqDiff, Nat.reduceAdd, Nat.reduceLeDiff, f1], by simp only [go_sem, Nat.reduceEqDiff, Nat.reduceAdd, Nat.reduceLeDiff, f2], by simp only [go_sem, Nat.reduceEqDiff, Nat.reduceAdd, Nat.reduceLeDiff, f3], by simp only [go_sem, Nat.reduceEqDiff, Nat.reduceAdd, Nat.reduceLeDiff], by simp only [go_sem, Nat.reduceEqDiff, Nat.reduceAdd, Nat.reduceLeDiff]⟩, by simp only [go_sem, Nat.reduceEqDiff, Nat.reduceAdd, Nat.reduceLeDiff, rule, plainR], by simp only [go_sem, Nat.reduceEqDiff, Nat.reduceAdd, Nat.reduceLeDiff, rule, plainR]⟩ ?_
  clear f1 f2 f3 f18 m3 c3 m18 hF q1 q2 q3 q4 m32
  clear fr1 σ1
  rintro fr1 σ1 ⟨⟨f1, f2, f3, f7, f29⟩, m3, m39⟩
  have hRf := plainR_fits r
  have R1 : (plainR r).for_ = 0 := rfl
  have R2 : (plainR r).keep = 0 := rfl
  have R3 : (plainR r).tries = 1 := rfl
  generalize plainR r = R at m3 m39 hRf R1 R2 R3
  have h353 := a353 Z.b Z.w (l := [R]) (a := []) (by simp) (by intro x hx; rw [List.mem_singleton.1 hx]; exact hRf) (by simp) (by intro x hx; cases hx)
  refine s_callW (args := [.t 29, .c (.slice .none 0 0)]) (vz := [.sl (rules [R]), .sl (als [])]) (by simp only [go_sem, Nat.reduceEqDiff, Nat.reduceAdd, Nat.reduceLeDiff, f29, m39]; rfl) h353 fun τ hw hz => ?_
  obtain ⟨w3, m3⟩ := hw _ _ _ m3
  obtain ⟨w39, m39⟩ := hw _ _ _ m39
  clear hw hz
  (repeat' first
    | refine w_seq ?_ | refine w_rg ?_ | refine wo_nil ?_ | refine g_skU ?_ | refine g_skT ?_ | refine g_skF ?_
    | ((first | apply s_plain | apply s_void | apply s_guard | apply g_goT | apply g_goF); · simp only [go_sem, Nat.reduceEqDiff, Nat.reduceAdd, Nat.reduceLeDiff]; (first | done | rfl))
    | ((first | apply g_T | apply g_F | apply g_gT | apply g_gF); · intro q1_; (first | intro q2_ | have q2_ := q1_); simp only [go_sem, Nat.reduceEqDiff, Nat.reduceAdd, Nat.reduceLeDiff, q1_, q2_]; (first | done | rfl))
    | fail
    )
  refine w_condB (by simp only [go_sem, Nat.reduceEqDiff, Nat.reduceAdd, Nat.reduceLeDiff]; first | done | rfl) (fun hc => ?_) (fun hc => ?_)
  · (repeat' first
    | refine w_seq ?_ | refine w_rg ?_ | refine wo_nil ?_ | refine g_skU ?_ | refine g_skT ?_ | refine g_skF ?_
    | ((first | apply s_plain | apply s_void | apply s_guard | apply g_goT | apply g_goF); · simp only [go_sem, Nat.reduceEqDiff, Nat.reduceAdd, Nat.reduceLeDiff, hal]; (first | done | rfl))
    | ((first | apply g_T | apply g_F | apply g_gT | apply g_gF); · intro q1_; (first | intro q2_ | have q2_ := q1_); simp only [go_sem, Nat.reduceEqDiff, Nat.reduceAdd, Nat.reduceLeDiff, hal, q1_, q2_]; (first | done | rfl))
    | (apply w_condX; · simp only [go_sem, Nat.reduceEqDiff, Nat.reduceAdd, Nat.reduceLeDiff, hal]; (first | done | rfl)); (first | refine wcd_T ?_ | refine wcd_F ?_)
    | refine w_skip ?_ | refine w_exit ?_ | refine w_ret ?_
    | fail
    )
    exact ⟨by first | exact .inr rfl | exact .inr trivial | exact .inl rfl, by simp only [go_sem, Nat.reduceEqDiff, Nat.reduceAdd, Nat.reduceLeDiff, retOf, resOf]; first | done | rfl⟩
  · have hR : rightR R = true := right_none (by simpa using hc)
    clear hc h353
    (repeat' first
    | refine w_seq ?_ | refine w_rg ?_ | refine wo_nil ?_ | refine g_skU ?_ | refine g_skT ?_ | refine g_skF ?_
    | ((first | apply s_plain | apply s_void | apply s_guard | apply g_goT | apply g_goF); · simp only [go_sem, Nat.reduceEqDiff, Nat.reduceAdd, Nat.reduceLeDiff, f1]; (first | done | rfl))
    | ((first | apply g_T | apply g_F | apply g_gT | apply g_gF); · intro q1_; (first | intro q2_ | have q2_ := q1_); simp only [go_sem, Nat.reduceEqDiff, Nat.reduceAdd, Nat.reduceLeDiff, f1, q1_, q2_]; (first | done | rfl))
    | (apply w_condX; · simp only [go_sem, Nat.reduceEqDiff, Nat.reduceAdd, Nat.reduceLeDiff, f1]; (first | done | rfl)); (first | refine wcd_T ?_ | refine wcd_F ?_)
    | refine w_skip ?_ | refine w_exit ?_ | refine w_ret ?_
    | fail
    )
    have hfit := aOf_fits hRf hR
    refine w_block (w_rangeF vs.length hv (fun i fr σ => ∃ (was : Bool) (t now : Int) (p : PV) (wr wr2 : Bool), (fr 8 = p ∧ fr 9 = .sc (.int .i64 now) ∧ fr 10 = .sc (.bool was)) ∧ (∀ (τ : St) (d : Nat), fz τ (d + 1) p = some (.sl (als (aOf R was t)))) ∧ (σ.m 2000003 0 = some ⟨8, [rule R], true, wr⟩ ∧ σ.m 39 n39 = some ⟨8, [rule R], true, wr2⟩) ∧ (0 ≤ t ∧ t ≤ now ∧ now ≤ 5000 * i ∧ i ≤ 20)) ⟨by decide, rfl, rfl⟩ ?_
      ⟨false, 0, 0, .em, w3, w39, ⟨by simp only [go_sem, Nat.reduceEqDiff, Nat.reduceAdd, Nat.reduceLeDiff], by simp only [go_sem, Nat.reduceEqDiff, Nat.reduceAdd, Nat.reduceLeDiff], by simp only [go_sem, Nat.reduceEqDiff, Nat.reduceAdd, Nat.reduceLeDiff]⟩, fun _ _ => rfl, ⟨m3, m39⟩, by omega, by omega, by omega, by omega⟩ (by simp only [go_sem, Nat.reduceEqDiff, Nat.reduceAdd, Nat.reduceLeDiff]; first | done | rfl) (by simp only [go_sem, Nat.reduceEqDiff, Nat.reduceAdd, Nat.reduceLeDiff, hvl]; first | done | rfl) ?_ ?_)
    · rintro i fr2 σ2 v ⟨was, t, now, p, wr, wr2, ⟨g8, g9, g10⟩, h2, h3, h4⟩
      refine ⟨⟨was, t, now, p, wr, wr2, ⟨?_, ?_, ?_⟩, h2, h3, h4⟩, ⟨was, t, now, p, wr, wr2, ⟨?_, ?_, ?_⟩, h2, h3, h4⟩, ⟨was, t, now, p, wr, wr2, ⟨?_, ?_, ?_⟩, h2, h3, h4⟩⟩ <;> simp only [go_sem, Nat.reduceEqDiff, Nat.reduceAdd, Nat.reduceLeDiff] <;> assumption
    · rintro i fr2 σ2 hi ⟨was, t, now, p, wr, wr2, ⟨g8, g9, g10⟩, hp, ⟨m3, m39⟩, hb⟩ hti hfr
      have f0_2 := hfr 2 rfl; have f0_3 := hfr 3 rfl; have f0_7 := hfr 7 rfl; have f0_33 := hfr 33 rfl; have f0_34 := hfr 34 rfl; try (simp only [go_sem, Nat.reduceEqDiff, Nat.reduceAdd, Nat.reduceLeDiff, f1, f2, f3, f7] at f0_2); try (simp only [go_sem, Nat.reduceEqDiff, Nat.reduceAdd, Nat.reduceLeDiff, f1, f2, f3, f7] at f0_3); try (simp only [go_sem, Nat.reduceEqDiff, Nat.reduceAdd, Nat.reduceLeDiff, f1, f2, f3, f7] at f0_7); try (simp only [go_sem, Nat.reduceEqDiff, Nat.reduceAdd, Nat.reduceLeDiff, f1, f2, f3, f7] at f0_33); try (simp only [go_sem, Nat.reduceEqDiff, Nat.reduceAdd, Nat.reduceLeDiff, f1, f2, f3, f7] at f0_34)
      have hy := numsW_at hi
      have e1 : (0 : Int) ≤ (i : Int) ∧ (i : Int) < (vs.length : Int) := by omega
      obtain ⟨b1, b2, b3, b4⟩ := hb
      generalize vs[i] = v at hy
      refine w_block ?_
      (repeat' first
    | refine w_seq ?_ | refine w_rg ?_ | refine wo_nil ?_ | refine g_skU ?_ | refine g_skT ?_ | refine g_skF ?_
    | ((first | apply s_plain | apply s_void | apply s_guard | apply g_goT | apply g_goF); · simp only [go_sem, Nat.reduceEqDiff, Nat.reduceAdd, Nat.reduceLeDiff, f0_2, f0_3, f0_7, f0_33, f0_34, hti, e1, hvl, Int.toNat_natCast, hy]; (first | done | rfl))
    | ((first | apply g_T | apply g_F | apply g_gT | apply g_gF); · intro q1_; (first | intro q2_ | have q2_ := q1_); simp only [go_sem, Nat.reduceEqDiff, Nat.reduceAdd, Nat.reduceLeDiff, f0_2, f0_3, f0_7, f0_33, f0_34, hti, e1, hvl, Int.toNat_natCast, hy, q1_, q2_]; (first | done | rfl))
    | fail
    )
      refine w_condB (by simp only [go_sem, Nat.reduceEqDiff, Nat.reduceAdd, Nat.reduceLeDiff]; first | done | rfl) (fun hc => ?_) (fun hc => ?_)
      · (repeat' first
    | refine w_seq ?_ | refine w_rg ?_ | refine wo_nil ?_ | refine g_skU ?_ | refine g_skT ?_ | refine g_skF ?_
    | ((first | apply s_plain | apply s_void | apply s_guard | apply g_goT | apply g_goF); · simp only [go_sem, Nat.reduceEqDiff, Nat.reduceAdd, Nat.reduceLeDiff, hal]; (first | done | rfl))
    | ((first | apply g_T | apply g_F | apply g_gT | apply g_gF); · intro q1_; (first | intro q2_ | have q2_ := q1_); simp only [go_sem, Nat.reduceEqDiff, Nat.reduceAdd, Nat.reduceLeDiff, hal, q1_, q2_]; (first | done | rfl))
    | (apply w_condX; · simp only [go_sem, Nat.reduceEqDiff, Nat.reduceAdd, Nat.reduceLeDiff, hal]; (first | done | rfl)); (first | refine wcd_T ?_ | refine wcd_F ?_)
    | refine w_skip ?_ | refine w_exit ?_ | refine w_ret ?_
    | fail
    )
        exact ⟨by first | exact .inr rfl | exact .inr trivial | exact .inl rfl, by simp only [go_sem, Nat.reduceEqDiff, Nat.reduceAdd, Nat.reduceLeDiff, retOf, resOf]; first | done | rfl⟩
      · have hi20 : i < 20 := by
          have := of_decide_eq_false hc
          omega
        clear hc
        refine w_skip ?_
        dsimp only
        refine w_seqC (fun fr σ => ∃ now' : Int, (fr 3 = .bx 2000003 0 8 0 0 ∧ fr 7 = .ob 39 n39 8 0 1 ∧ fr 8 = p ∧ fr 9 = .sc (.int .i64 now') ∧ fr 10 = .sc (.bool was) ∧ fr 12 = .sc (.int .i64 v)) ∧ (σ.m 2000003 0 = some ⟨8, [rule R], true, wr⟩ ∧ σ.m 39 n39 = some ⟨8, [rule R], true, wr2⟩) ∧ (now ≤ now' ∧ now' ≤ now + 5000)) ?_ ?_
        · (repeat' first
    | refine w_seq ?_ | refine w_rg ?_ | refine wo_nil ?_ | refine g_skU ?_ | refine g_skT ?_ | refine g_skF ?_
    | ((first | apply s_plain | apply s_void | apply s_guard | apply g_goT | apply g_goF); · simp only [go_sem, Nat.reduceEqDiff, Nat.reduceAdd, Nat.reduceLeDiff, f0_2, f0_3, f0_7, f0_33, f0_34, hgl]; (first | done | rfl))
    | ((first | apply g_T | apply g_F | apply g_gT | apply g_gF); · intro q1_; (first | intro q2_ | have q2_ := q1_); simp only [go_sem, Nat.reduceEqDiff, Nat.reduceAdd, Nat.reduceLeDiff, f0_2, f0_3, f0_7, f0_33, f0_34, hgl, q1_, q2_]; (first | done | rfl))
    | fail
    )
          refine w_condB (by simp only [go_sem, Nat.reduceEqDiff, Nat.reduceAdd, Nat.reduceLeDiff]; first | done | rfl) (fun hc => ?_) (fun hc => ?_)
          · have hig : i < gs.length := by
              have := of_decide_eq_true hc
              omega
            have hy2 := numsW_at hig
            have e2 : (0 : Int) ≤ (i : Int) ∧ (i : Int) < (gs.length : Int) := by omega
            have hrr := rem_rng gs[i] 5000 (by omega) (by omega)
            generalize gs[i] = g at hy2 hrr
            generalize hqq : (IntKind.i64.wrap (g.tmod 5000 + 5000)).tmod 5000 = q at hrr
            have hwq : IntKind.i64.wrap (now + q) = now + q := by rw [IntKind.wrap_i64]; omega
            (repeat' first
    | refine w_seq ?_ | refine w_rg ?_ | refine wo_nil ?_ | refine g_skU ?_ | refine g_skT ?_ | refine g_skF ?_
    | ((first | apply s_plain | apply s_void | apply s_guard | apply g_goT | apply g_goF); · simp only [go_sem, Nat.reduceEqDiff, Nat.reduceAdd, Nat.reduceLeDiff, f0_2, f0_3, f0_7, f0_33, f0_34, g9, hgl, e2, Int.toNat_natCast, hy2, hqq, hwq]; (first | done | rfl))
    | ((first | apply g_T | apply g_F | apply g_gT | apply g_gF); · intro q1_; (first | intro q2_ | have q2_ := q1_); simp only [go_sem, Nat.reduceEqDiff, Nat.reduceAdd, Nat.reduceLeDiff, f0_2, f0_3, f0_7, f0_33, f0_34, g9, hgl, e2, Int.toNat_natCast, hy2, hqq, hwq, q1_, q2_]; (first | done | rfl))
    | fail
    )
            exact ⟨rfl, now + q, ⟨by simp only [go_sem, Nat.reduceEqDiff, Nat.reduceAdd, Nat.reduceLeDiff, f0_2, f0_3, f0_7, f0_33, f0_34], by simp only [go_sem, Nat.reduceEqDiff, Nat.reduceAdd, Nat.reduceLeDiff, f0_2, f0_3, f0_7, f0_33, f0_34], by simp only [go_sem, Nat.reduceEqDiff, Nat.reduceAdd, Nat.reduceLeDiff, g8], by simp only [go_sem, Nat.reduceEqDiff, Nat.reduceAdd, Nat.reduceLeDiff], by simp only [go_sem, Nat.reduceEqDiff, Nat.reduceAdd, Nat.reduceLeDiff, g10], by simp only [go_sem, Nat.reduceEqDiff, Nat.reduceAdd, Nat.reduceLeDiff]⟩, ⟨m3, m39⟩, by omega, by omega⟩
          · refine w_skip ?_
            exact ⟨rfl, now, ⟨by simp only [go_sem, Nat.reduceEqDiff, Nat.reduceAdd, Nat.reduceLeDiff, f0_2, f0_3, f0_7, f0_33, f0_34], by simp only [go_sem, Nat.reduceEqDiff, Nat.reduceAdd, Nat.reduceLeDiff, f0_2, f0_3, f0_7, f0_33, f0_34], by simp only [go_sem, Nat.reduceEqDiff, Nat.reduceAdd, Nat.reduceLeDiff, g8], by simp only [go_sem, Nat.reduceEqDiff, Nat.reduceAdd, Nat.reduceLeDiff, g9], by simp only [go_sem, Nat.reduceEqDiff, Nat.reduceAdd, Nat.reduceLeDiff, g10], by simp only [go_sem, Nat.reduceEqDiff, Nat.reduceAdd, Nat.reduceLeDiff]⟩, ⟨m3, m39⟩, by omega, by omega⟩
        · clear hfr hti g8 g9 g10 m3 m39 hy e1
          rintro fr3 σ3 ⟨now', ⟨g3, g7, g8, g9, g10, g12⟩, ⟨m3, m39⟩, b5, b6⟩
          unfold rule at m3
          (repeat' first
    | refine w_seq ?_ | refine w_rg ?_ | refine wo_nil ?_ | refine g_skU ?_ | refine g_skT ?_ | refine g_skF ?_
    | ((first | apply s_plain | apply s_void | apply s_guard | apply g_goT | apply g_goF); · simp only [go_sem, Nat.reduceEqDiff, Nat.reduceAdd, Nat.reduceLeDiff, g3, g7, g8, g9, g10, g12, m3, mn2]; (first | done | rfl))
    | ((first | apply g_T | apply g_F | apply g_gT | apply g_gF); · intro q1_; (first | intro q2_ | have q2_ := q1_); simp only [go_sem, Nat.reduceEqDiff, Nat.reduceAdd, Nat.reduceLeDiff, g3, g7, g8, g9, g10, g12, m3, mn2, q1_, q2_]; (first | done | rfl))
    | fail
    )
          refine wos_j (fun fr τ => ∃ w : Int, (-1099511627776 ≤ w ∧ w ≤ 1099511627776) ∧ (fr 3 = .bx 2000003 0 8 0 0 ∧ fr 7 = .ob 39 n39 8 0 1 ∧ fr 9 = .sc (.int .i64 now') ∧ fr 10 = .sc (.bool was) ∧ fr 13 = .sc (.bool (firesB R.how w R.limit))) ∧ (fr 112 = .ob 39 n39 8 0 1 ∧ fr 113 = p ∧ fr 117 = .agg [.sc (.string R.metric), .em, .sc (.int .i64 w)] ∧ fr 118 = .sc (.int .i64 now')) ∧ (τ.m 2000003 0 = some ⟨8, [rule R], true, wr⟩ ∧ τ.m 39 n39 = some ⟨8, [rule R], true, wr2⟩))
            ⟨clampW v, clampW_rng v, ⟨by simp only [go_sem, Nat.reduceEqDiff, Nat.reduceAdd, Nat.reduceLeDiff, g3], by simp only [go_sem, Nat.reduceEqDiff, Nat.reduceAdd, Nat.reduceLeDiff, g7], by simp only [go_sem, Nat.reduceEqDiff, Nat.reduceAdd, Nat.reduceLeDiff, g9], by simp only [go_sem, Nat.reduceEqDiff, Nat.reduceAdd, Nat.reduceLeDiff, g10], ?_⟩, ⟨by simp only [go_sem, Nat.reduceEqDiff, Nat.reduceAdd, Nat.reduceLeDiff], by simp only [go_sem, Nat.reduceEqDiff, Nat.reduceAdd, Nat.reduceLeDiff], by simp only [go_sem, Nat.reduceEqDiff, Nat.reduceAdd, Nat.reduceLeDiff, clampW], by simp only [go_sem, Nat.reduceEqDiff, Nat.reduceAdd, Nat.reduceLeDiff]⟩, by simp only [go_sem, Nat.reduceEqDiff, Nat.reduceAdd, Nat.reduceLeDiff, m3, rule], m39⟩ ?_
          · simp only [go_sem, Nat.reduceEqDiff, Nat.reduceAdd, Nat.reduceLeDiff]
            exact congrArg (fun b => PV.sc (.bool b)) (fires_five (rightR_iff hR).h1 (rightR_iff hR).h5 _ _)
          clear g3 g7 g8 g9 g10 g12 m3 m39
          rintro fr4 σ4 ⟨w, hw, ⟨g3, g7, g9, g10, g13⟩, ⟨g112, g113, g117, g118⟩, ⟨m3, m39⟩⟩
          have htn : timeB now' = true := by unfold timeB; simp; omega
          have htt : timeB t = true := by unfold timeB; simp; omega
          have h355 := a355 Z.b Z.w Z.u Z.v Z.d Z.e (l := [R]) (a := aOf R was t) (s := ⟨R.metric, [], w⟩) (now := now') (by simp) (by intro x hx; rw [List.mem_singleton.1 hx]; exact hRf) (hfit was t).1 (hfit was t).2 ⟨hRf.m, by simp, by intro x hx; cases hx⟩
          rw [take_plain hR R1 R2 R3 htn htt (by omega) hw] at h355
          refine s_callW (args := [.t 112, .t 113, .t 117, .t 118]) (vz := [.sl (rules [R]), .sl (als (aOf R was t)), smp ⟨R.metric, [], w⟩, .sc (.int .i64 now')]) ?_ h355 fun τ hw2 hz => ?_
          · simp only [go_sem, Nat.reduceEqDiff, Nat.reduceAdd, Nat.reduceLeDiff, g112, g113, g117, g118, m39, hp]
            rfl
          obtain ⟨wr3, m3⟩ := hw2 _ _ _ m3
          obtain ⟨wr4, m39⟩ := hw2 _ _ _ m39
          clear hw2 hz h355
          generalize firesB R.how w R.limit = is at g13
          have h356 := a356 Z.g (a := aOf R is (if was then t else now')) (by unfold aOf; split <;> simp)
          have t0 : 0 ≤ (if was then t else now') ∧ (if was then t else now') ≤ now' := by split <;> omega
          generalize (if was then t else now') = t' at h356 t0
          have hfz : ∀ (τ : St) (d : Nat), fz τ (d + 1) (.sl (als (aOf R is t'))) = some (.sl (als (aOf R is t'))) := fun _ _ => rfl
          have hl1 : (lss (firing (aOf R is t'))).length = (if is then 1 else 0) := by
            rw [lss_len]
            cases is <;> rfl
          have hl2 : (als (aOf R is t')).length = (if is then 1 else 0) := by
            rw [als_len]
            cases is <;> rfl
          refine wos_mid (fun fr τ => (fr 3 = .bx 2000003 0 8 0 0 ∧ fr 7 = .ob 39 n39 8 0 1 ∧ fr 9 = .sc (.int .i64 now') ∧ fr 10 = .sc (.bool was) ∧ fr 13 = .sc (.bool is) ∧ fr 14 = .sl (als (aOf R is t')) ∧ fr 15 = .sl (chs (if is == was then [] else [⟨lsOf R, is⟩])) ∧ fr 16 = .sc (.int .i64 0)) ∧ (τ.m 2000003 0 = some ⟨8, [rule R], true, wr3⟩ ∧ τ.m 39 n39 = some ⟨8, [rule R], true, wr4⟩)) ?_ ?_
          · (repeat' first
    | refine w_seq ?_ | refine w_rg ?_ | refine wo_nil ?_ | refine g_skU ?_ | refine g_skT ?_ | refine g_skF ?_
    | ((first | apply s_plain | apply s_void | apply s_guard | apply g_goT | apply g_goF); · simp only [go_sem, Nat.reduceEqDiff, Nat.reduceAdd, Nat.reduceLeDiff]; (first | done | rfl))
    | ((first | apply g_T | apply g_F | apply g_gT | apply g_gF); · intro q1_; (first | intro q2_ | have q2_ := q1_); simp only [go_sem, Nat.reduceEqDiff, Nat.reduceAdd, Nat.reduceLeDiff, q1_, q2_]; (first | done | rfl))
    | fail
    )
            exact ⟨⟨by simp only [go_sem, Nat.reduceEqDiff, Nat.reduceAdd, Nat.reduceLeDiff, g3], by simp only [go_sem, Nat.reduceEqDiff, Nat.reduceAdd, Nat.reduceLeDiff, g7], by simp only [go_sem, Nat.reduceEqDiff, Nat.reduceAdd, Nat.reduceLeDiff, g9], by simp only [go_sem, Nat.reduceEqDiff, Nat.reduceAdd, Nat.reduceLeDiff, g10], by simp only [go_sem, Nat.reduceEqDiff, Nat.reduceAdd, Nat.reduceLeDiff, g13], by simp only [go_sem, Nat.reduceEqDiff, Nat.reduceAdd, Nat.reduceLeDiff], by simp only [go_sem, Nat.reduceEqDiff, Nat.reduceAdd, Nat.reduceLeDiff], by simp only [go_sem, Nat.reduceEqDiff, Nat.reduceAdd, Nat.reduceLeDiff]⟩, m3, m39⟩
          clear g3 g7 g9 g10 g13 m3 m39 g112 g113 g117 g118
          rintro fr5 σ5 ⟨⟨g3, g7, g9, g10, g13, g14, g15, g16⟩, ⟨m3, m39⟩⟩
          dsimp only
          generalize hA : aOf R is t' = A at h356 hfz hl1 hl2 g14
          generalize hC : (if is == was then [] else [⟨lsOf R, is⟩] : List Ch) = C at g15
          have hok : (decide (((firing A).length : Int) ≠ (A.length : Int))) = false := by
            rw [lss_len] at hl1
            rw [als_len] at hl2
            simp [hl1, hl2]
          cases is <;> cases was
          · simp only [Bool.false_eq_true, if_false, beq_self_eq_true, if_true, Bool.false_beq, Bool.true_beq, Bool.not_true, Bool.not_false] at hl1 hl2 hC
            subst hC
            (repeat' first
    | refine w_seq ?_ | refine w_rg ?_ | refine wo_nil ?_ | refine g_skU ?_ | refine g_skT ?_ | refine g_skF ?_
    | ((first | apply s_plain | apply s_void | apply s_guard | apply g_goT | apply g_goF); · simp only [go_sem, Nat.reduceEqDiff, Nat.reduceAdd, Nat.reduceLeDiff, g10, g13, g14, g15, g16, h356, hl1, hl2, chs, ch, bne_self_eq_false, Int.reduceBEq, Int.reduceBNe, Bool.false_beq, Bool.true_beq, Bool.false_bne, Bool.true_bne, Int.ofNat_one, Int.ofNat_zero, beq_self_eq_true, Int.toNat_zero]; (first | done | rfl))
    | ((first | apply g_T | apply g_F | apply g_gT | apply g_gF); · intro q1_; (first | intro q2_ | have q2_ := q1_); simp only [go_sem, Nat.reduceEqDiff, Nat.reduceAdd, Nat.reduceLeDiff, g10, g13, g14, g15, g16, h356, hl1, hl2, chs, ch, bne_self_eq_false, Int.reduceBEq, Int.reduceBNe, Bool.false_beq, Bool.true_beq, Bool.false_bne, Bool.true_bne, Int.ofNat_one, Int.ofNat_zero, beq_self_eq_true, Int.toNat_zero, q1_, q2_]; (first | done | rfl))
    | (apply w_condX; · simp only [go_sem, Nat.reduceEqDiff, Nat.reduceAdd, Nat.reduceLeDiff, g10, g13, g14, g15, g16, h356, hl1, hl2, chs, ch, bne_self_eq_false, Int.reduceBEq, Int.reduceBNe, Bool.false_beq, Bool.true_beq, Bool.false_bne, Bool.true_bne, Int.ofNat_one, Int.ofNat_zero, beq_self_eq_true, Int.toNat_zero]; (first | done | rfl)); (first | refine wcd_T ?_ | refine wcd_F ?_)
    | refine w_skip ?_ | refine w_exit ?_ | refine w_ret ?_
    | fail
    )
            dsimp only
            refine ⟨false, t', now', .sl (als A), wr3, wr4, ⟨by simp only [go_sem, Nat.reduceEqDiff, Nat.reduceAdd, Nat.reduceLeDiff, g14], by simp only [go_sem, Nat.reduceEqDiff, Nat.reduceAdd, Nat.reduceLeDiff, g9], by simp only [go_sem, Nat.reduceEqDiff, Nat.reduceAdd, Nat.reduceLeDiff, g13]⟩, by rw [hA]; exact hfz, ⟨by simp only [go_sem, Nat.reduceEqDiff, Nat.reduceAdd, Nat.reduceLeDiff, m3], by simp only [go_sem, Nat.reduceEqDiff, Nat.reduceAdd, Nat.reduceLeDiff, m39]⟩, by omega, by omega, by omega, by omega⟩
          · simp only [Bool.false_eq_true, if_false, beq_self_eq_true, if_true, Bool.false_beq, Bool.true_beq, Bool.not_true, Bool.not_false] at hl1 hl2 hC
            subst hC
            (repeat' first
    | refine w_seq ?_ | refine w_rg ?_ | refine wo_nil ?_ | refine g_skU ?_ | refine g_skT ?_ | refine g_skF ?_
    | ((first | apply s_plain | apply s_void | apply s_guard | apply g_goT | apply g_goF); · simp only [go_sem, Nat.reduceEqDiff, Nat.reduceAdd, Nat.reduceLeDiff, g10, g13, g14, g15, g16, h356, hl1, hl2, chs, ch, bne_self_eq_false, Int.reduceBEq, Int.reduceBNe, Bool.false_beq, Bool.true_beq, Bool.false_bne, Bool.true_bne, Int.ofNat_one, Int.ofNat_zero, beq_self_eq_true, Int.toNat_zero]; (first | done | rfl))
    | ((first | apply g_T | apply g_F | apply g_gT | apply g_gF); · intro q1_; (first | intro q2_ | have q2_ := q1_); simp only [go_sem, Nat.reduceEqDiff, Nat.reduceAdd, Nat.reduceLeDiff, g10, g13, g14, g15, g16, h356, hl1, hl2, chs, ch, bne_self_eq_false, Int.reduceBEq, Int.reduceBNe, Bool.false_beq, Bool.true_beq, Bool.false_bne, Bool.true_bne, Int.ofNat_one, Int.ofNat_zero, beq_self_eq_true, Int.toNat_zero, q1_, q2_]; (first | done | rfl))
    | (apply w_condX; · simp only [go_sem, Nat.reduceEqDiff, Nat.reduceAdd, Nat.reduceLeDiff, g10, g13, g14, g15, g16, h356, hl1, hl2, chs, ch, bne_self_eq_false, Int.reduceBEq, Int.reduceBNe, Bool.false_beq, Bool.true_beq, Bool.false_bne, Bool.true_bne, Int.ofNat_one, Int.ofNat_zero, beq_self_eq_true, Int.toNat_zero]; (first | done | rfl)); (first | refine wcd_T ?_ | refine wcd_F ?_)
    | refine w_skip ?_ | refine w_exit ?_ | refine w_ret ?_
    | fail
    )
            dsimp only
            refine ⟨false, t', now', .sl (als A), wr3, wr4, ⟨by simp only [go_sem, Nat.reduceEqDiff, Nat.reduceAdd, Nat.reduceLeDiff, g14], by simp only [go_sem, Nat.reduceEqDiff, Nat.reduceAdd, Nat.reduceLeDiff, g9], by simp only [go_sem, Nat.reduceEqDiff, Nat.reduceAdd, Nat.reduceLeDiff, g13]⟩, by rw [hA]; exact hfz, ⟨by simp only [go_sem, Nat.reduceEqDiff, Nat.reduceAdd, Nat.reduceLeDiff, m3], by simp only [go_sem, Nat.reduceEqDiff, Nat.reduceAdd, Nat.reduceLeDiff, m39]⟩, by omega, by omega, by omega, by omega⟩
          · simp only [Bool.false_eq_true, if_false, beq_self_eq_true, if_true, Bool.false_beq, Bool.true_beq, Bool.not_true, Bool.not_false] at hl1 hl2 hC
            subst hC
            (repeat' first
    | refine w_seq ?_ | refine w_rg ?_ | refine wo_nil ?_ | refine g_skU ?_ | refine g_skT ?_ | refine g_skF ?_
    | ((first | apply s_plain | apply s_void | apply s_guard | apply g_goT | apply g_goF); · simp only [go_sem, Nat.reduceEqDiff, Nat.reduceAdd, Nat.reduceLeDiff, g10, g13, g14, g15, g16, h356, hl1, hl2, chs, ch, bne_self_eq_false, Int.reduceBEq, Int.reduceBNe, Bool.false_beq, Bool.true_beq, Bool.false_bne, Bool.true_bne, Int.ofNat_one, Int.ofNat_zero, beq_self_eq_true, Int.toNat_zero]; (first | done | rfl))
    | ((first | apply g_T | apply g_F | apply g_gT | apply g_gF); · intro q1_; (first | intro q2_ | have q2_ := q1_); simp only [go_sem, Nat.reduceEqDiff, Nat.reduceAdd, Nat.reduceLeDiff, g10, g13, g14, g15, g16, h356, hl1, hl2, chs, ch, bne_self_eq_false, Int.reduceBEq, Int.reduceBNe, Bool.false_beq, Bool.true_beq, Bool.false_bne, Bool.true_bne, Int.ofNat_one, Int.ofNat_zero, beq_self_eq_true, Int.toNat_zero, q1_, q2_]; (first | done | rfl))
    | (apply w_condX; · simp only [go_sem, Nat.reduceEqDiff, Nat.reduceAdd, Nat.reduceLeDiff, g10, g13, g14, g15, g16, h356, hl1, hl2, chs, ch, bne_self_eq_false, Int.reduceBEq, Int.reduceBNe, Bool.false_beq, Bool.true_beq, Bool.false_bne, Bool.true_bne, Int.ofNat_one, Int.ofNat_zero, beq_self_eq_true, Int.toNat_zero]; (first | done | rfl)); (first | refine wcd_T ?_ | refine wcd_F ?_)
    | refine w_skip ?_ | refine w_exit ?_ | refine w_ret ?_
    | fail
    )
            dsimp only
            refine ⟨true, t', now', .sl (als A), wr3, wr4, ⟨by simp only [go_sem, Nat.reduceEqDiff, Nat.reduceAdd, Nat.reduceLeDiff, g14], by simp only [go_sem, Nat.reduceEqDiff, Nat.reduceAdd, Nat.reduceLeDiff, g9], by simp only [go_sem, Nat.reduceEqDiff, Nat.reduceAdd, Nat.reduceLeDiff, g13]⟩, by rw [hA]; exact hfz, ⟨by simp only [go_sem, Nat.reduceEqDiff, Nat.reduceAdd, Nat.reduceLeDiff, m3], by simp only [go_sem, Nat.reduceEqDiff, Nat.reduceAdd, Nat.reduceLeDiff, m39]⟩, by omega, by omega, by omega, by omega⟩
          · simp only [Bool.false_eq_true, if_false, beq_self_eq_true, if_true, Bool.false_beq, Bool.true_beq, Bool.not_true, Bool.not_false] at hl1 hl2 hC
            subst hC
            (repeat' first
    | refine w_seq ?_ | refine w_rg ?_ | refine wo_nil ?_ | refine g_skU ?_ | refine g_skT ?_ | refine g_skF ?_
    | ((first | apply s_plain | apply s_void | apply s_guard | apply g_goT | apply g_goF); · simp only [go_sem, Nat.reduceEqDiff, Nat.reduceAdd, Nat.reduceLeDiff, g10, g13, g14, g15, g16, h356, hl1, hl2, chs, ch, bne_self_eq_false, Int.reduceBEq, Int.reduceBNe, Bool.false_beq, Bool.true_beq, Bool.false_bne, Bool.true_bne, Int.ofNat_one, Int.ofNat_zero, beq_self_eq_true, Int.toNat_zero]; (first | done | rfl))
    | ((first | apply g_T | apply g_F | apply g_gT | apply g_gF); · intro q1_; (first | intro q2_ | have q2_ := q1_); simp only [go_sem, Nat.reduceEqDiff, Nat.reduceAdd, Nat.reduceLeDiff, g10, g13, g14, g15, g16, h356, hl1, hl2, chs, ch, bne_self_eq_false, Int.reduceBEq, Int.reduceBNe, Bool.false_beq, Bool.true_beq, Bool.false_bne, Bool.true_bne, Int.ofNat_one, Int.ofNat_zero, beq_self_eq_true, Int.toNat_zero, q1_, q2_]; (first | done | rfl))
    | (apply w_condX; · simp only [go_sem, Nat.reduceEqDiff, Nat.reduceAdd, Nat.reduceLeDiff, g10, g13, g14, g15, g16, h356, hl1, hl2, chs, ch, bne_self_eq_false, Int.reduceBEq, Int.reduceBNe, Bool.false_beq, Bool.true_beq, Bool.false_bne, Bool.true_bne, Int.ofNat_one, Int.ofNat_zero, beq_self_eq_true, Int.toNat_zero]; (first | done | rfl)); (first | refine wcd_T ?_ | refine wcd_F ?_)
    | refine w_skip ?_ | refine w_exit ?_ | refine w_ret ?_
    | fail
    )
            dsimp only
            refine ⟨true, t', now', .sl (als A), wr3, wr4, ⟨by simp only [go_sem, Nat.reduceEqDiff, Nat.reduceAdd, Nat.reduceLeDiff, g14], by simp only [go_sem, Nat.reduceEqDiff, Nat.reduceAdd, Nat.reduceLeDiff, g9], by simp only [go_sem, Nat.reduceEqDiff, Nat.reduceAdd, Nat.reduceLeDiff, g13]⟩, by rw [hA]; exact hfz, ⟨by simp only [go_sem, Nat.reduceEqDiff, Nat.reduceAdd, Nat.reduceLeDiff, m3], by simp only [go_sem, Nat.reduceEqDiff, Nat.reduceAdd, Nat.reduceLeDiff, m39]⟩, by omega, by omega, by omega, by omega⟩
    · rintro fr2 σ2 _ hfr
      try simp only [if_true]
      (repeat' first
    | refine w_seq ?_ | refine w_rg ?_ | refine wo_nil ?_ | refine g_skU ?_ | refine g_skT ?_ | refine g_skF ?_
    | ((first | apply s_plain | apply s_void | apply s_guard | apply g_goT | apply g_goF); · simp only [go_sem, Nat.reduceEqDiff, Nat.reduceAdd, Nat.reduceLeDiff, hal]; (first | done | rfl))
    | ((first | apply g_T | apply g_F | apply g_gT | apply g_gF); · intro q1_; (first | intro q2_ | have q2_ := q1_); simp only [go_sem, Nat.reduceEqDiff, Nat.reduceAdd, Nat.reduceLeDiff, hal, q1_, q2_]; (first | done | rfl))
    | (apply w_condX; · simp only [go_sem, Nat.reduceEqDiff, Nat.reduceAdd, Nat.reduceLeDiff, hal]; (first | done | rfl)); (first | refine wcd_T ?_ | refine wcd_F ?_)
    | refine w_skip ?_ | refine w_exit ?_ | refine w_ret ?_
    | fail
    )
      exact ⟨by first | exact .inr rfl | exact .inr trivial | exact .inl rfl, by simp only [go_sem, Nat.reduceEqDiff, Nat.reduceAdd, Nat.reduceLeDiff, retOf, resOf]; first | done | rfl⟩
end

end
end Go.Proofs.YtcpgkdaicglogaaGreatDoorPv
