/-
Own texts of the proof, merged: part 2.
-/
import Derived.Test.YtemoboghbdcjkaaDoorPkStoreTearsA
namespace Go.Proofs.YtemoboghbdcjkaaDoorPv
open Go
set_option linter.unusedSimpArgs false
set_option linter.unusedVariables false
set_option maxHeartbeats 4000000
set_option maxRecDepth 8000
section
attribute [local go_sem ↓] e_mv e_pick e_bin e_eqs e_beq e_un e_cvi e_str e_s2b e_b2s e_box e_build e_bsl e_ld e_st e_nck e_mkf e_slcS e_slcL e_fa e_fld e_ia e_iaa e_ix e_ixa e_ext e_lenS e_lenL e_mnmx e_app e_appb e_bbx e_msl e_clr e_call e_callv e_icall e_slcA e_mkm e_mput e_mget e_mlen e_mdel pa_t pa_c pa_f slcSP_str hiOf_some hiOf_none loOf_some loOf_none set_eq set_ne
attribute [local go_sem] pv pv1 simple frOf_0 frOf_1 frOf_2 frOf_3 frOf_4 frOf_5 ne_eq not_false_eq_true if_true Bool.false_eq_true if_false pbin punary Option.map_some Option.bind_some pick_and pick_or opt_true Bool.true_and Bool.and_self Bool.and_true Bool.true_or Bool.false_or Bool.not_true Bool.not_false callE pcall_eq List.map_cons List.map_nil List.append_nil List.nil_append List.cons_append mapM_cons' mapM_nil' dep_eq fz_sc fz_sl fz_em fz_fn fz_fp fz_agg fz_tu fz_bx fz_ob Nat.lt_irrefl Nat.zero_lt_one Nat.lt_add_one flat clL cl Bool.or_true okc_sc okc_em okc_sl okc_ob okc_bx okc_fp okc_fn okc_agg okc_ifc cells_agg cells_sc cells_sl cells_em cells_ob cells_fn cells_bx cells_fp List.length_cons List.length_nil Nat.zero_add and_self true_and and_true new_m new_c put_m put_c nil_m nil_c nil_mm new_mm put_mm newM_m newM_c newM_mm putM_m putM_c putM_mm mkeyV_1 mkeyV_2 mapAt_eq deref List.getElem?_cons_zero List.getElem?_cons_succ List.drop_zero List.drop_succ_cons List.take_succ_cons List.take_zero Nat.le_refl false_and and_false decide_true decide_false lenP_em lenP_nil lenP_sl lenP_ob Int.ofNat_zero splice fillP fillE List.modify_zero_cons List.replicate_succ List.replicate_zero List.set_cons_zero List.drop_zero ba_data ba_size ba_toList ba_extract ba_append List.toList_toArray
def d267 : Def := (.code 4 [.tmp 8, .tmp 9] (.seq (.rg false [⟨.some 7, .none, .box (.t 3)⟩, ⟨.some 8, .none, .mv (.c (.slice .none 0 0))⟩, ⟨.some 9, .none, .mv (.c (.bool false))⟩]) (.seq (.rg false [⟨.some 11, .none, .fa 1 (.t 7)⟩, ⟨.some 12, .none, .ld .none (.t 11)⟩, ⟨.some 13, .none, .build (.agg #[.string ⟨#[]⟩, .string ⟨#[]⟩, .string ⟨#[]⟩]) [(0, (1, .t 12))]⟩, ⟨.some 10, .none, .box (.c (.agg #[.string ⟨#[]⟩, .string ⟨#[]⟩, .string ⟨#[]⟩]))⟩, ⟨.none, .none, .st 3 (.t 10) (.t 13)⟩]) (.seq (.seq (.rg false [⟨.some 14, .none, .mv (.t 2)⟩]) (.cond (.t 14) (.rg false [⟨.some 15, .none, .mv (.t 0)⟩, ⟨.some 16, .none, .mv (.t 1)⟩, ⟨.some 17, .none, .ia 3 (.t 15) (.t 16)⟩, ⟨.some 18, .none, .ld (.some 3) (.t 17)⟩, ⟨.none, .none, .st 3 (.t 10) (.t 18)⟩]) .skip)) (.seq (.seq (.rg false [⟨.some 19, .none, .fa 0 (.t 7)⟩, ⟨.some 20, .none, .ld .none (.t 19)⟩]) (.block 0 (.seq (.block 4 (.seq (.block 3 (.seq (.block 2 (.seq (.block 1 (.seq (.seq (.seq (.rg false [⟨.some 22, .none, .bin .eql (.t 20) (.c (.int .i64 1))⟩, ⟨.some 21, .none, .mv (.t 22)⟩]) (.cond (.t 21) (.exit 1) .skip)) (.seq (.seq (.rg false [⟨.some 24, .none, .bin .eql (.t 20) (.c (.int .i64 2))⟩, ⟨.some 23, .none, .mv (.t 24)⟩]) (.cond (.t 23) (.exit 2) .skip)) (.seq (.seq (.rg false [⟨.some 26, .none, .bin .eql (.t 20) (.c (.int .i64 3))⟩, ⟨.some 25, .none, .mv (.t 26)⟩]) (.cond (.t 25) (.exit 3) .skip)) (.seq (.rg false [⟨.some 28, .none, .bin .eql (.t 20) (.c (.int .i64 4))⟩, ⟨.some 27, .none, .mv (.t 28)⟩]) (.cond (.t 27) (.exit 4) .skip))))) (.exit 0))) (.seq (.seq (.rg false [⟨.some 29, .none, .fa 2 (.t 10)⟩, ⟨.some 30, .none, .ld .none (.t 29)⟩, ⟨.some 31, .none, .fa 2 (.t 7)⟩, ⟨.some 32, .none, .ld .none (.t 31)⟩, ⟨.some 33, .none, .bin .add (.t 30) (.t 32)⟩, ⟨.some 34, .none, .fa 2 (.t 10)⟩, ⟨.none, .none, .st 1 (.t 34) (.t 33)⟩]) (.rg false [⟨.some 35, .none, .mv (.t 0)⟩, ⟨.some 36, .none, .ld (.some 3) (.t 10)⟩, ⟨.some 37, .none, .call 277 .opn [.t 35, .t 36]⟩, ⟨.some 0, .none, .mv (.t 37)⟩])) (.exit 0)))) (.seq (.seq (.rg false [⟨.some 38, .none, .fa 1 (.t 10)⟩, ⟨.some 39, .none, .ld .none (.t 38)⟩, ⟨.some 40, .none, .fa 2 (.t 10)⟩, ⟨.some 41, .none, .ld .none (.t 40)⟩, ⟨.some 42, .none, .bin .add (.t 39) (.t 41)⟩, ⟨.some 43, .none, .fa 1 (.t 10)⟩, ⟨.none, .none, .st 1 (.t 43) (.t 42)⟩, ⟨.some 44, .none, .fa 2 (.t 10)⟩, ⟨.none, .none, .st 1 (.t 44) (.c (.string ⟨#[]⟩))⟩]) (.rg false [⟨.some 45, .none, .mv (.t 0)⟩, ⟨.some 46, .none, .ld (.some 3) (.t 10)⟩, ⟨.some 47, .none, .call 277 .opn [.t 45, .t 46]⟩, ⟨.some 0, .none, .mv (.t 47)⟩])) (.exit 0)))) (.rg false [⟨.some 48, .none, .fa 2 (.t 7)⟩, ⟨.some 49, .none, .ld .none (.t 48)⟩, ⟨.some 50, .none, .fa 0 (.t 10)⟩, ⟨.none, .none, .st 1 (.t 50) (.t 49)⟩]))) (.seq (.seq (.rg false [⟨.some 51, .none, .mv (.t 0)⟩, ⟨.some 52, .none, .mv (.t 1)⟩, ⟨.some 53, .none, .mv (.t 1)⟩, ⟨.some 54, .none, .bin .add (.t 53) (.c (.int .i64 1))⟩, ⟨.some 55, .none, .call 278 .opn [.t 51, .t 52, .t 54]⟩, ⟨.some 0, .none, .mv (.t 55)⟩]) (.seq (.rg false [⟨.some 56, .none, .fa 0 (.t 10)⟩, ⟨.some 57, .none, .ld .none (.t 56)⟩, ⟨.some 58, .none, .fa 1 (.t 7)⟩, ⟨.some 59, .none, .ld .none (.t 58)⟩, ⟨.some 60, .none, .bin .neq (.t 57) (.t 59)⟩, ⟨.some 61, .none, .mv (.t 60)⟩, ⟨.some 62, .some (61, false), .fa 0 (.t 7)⟩, ⟨.some 63, .some (61, false), .ld .none (.t 62)⟩, ⟨.some 64, .some (61, false), .bin .eql (.t 63) (.c (.int .i64 3))⟩, ⟨.some 65, .none, .pick (.t 61) (.c (.bool true)) (.t 64)⟩]) (.cond (.t 65) (.rg false [⟨.some 66, .none, .mv (.t 0)⟩, ⟨.some 67, .none, .ld (.some 3) (.t 10)⟩, ⟨.some 68, .none, .call 277 .opn [.t 66, .t 67]⟩, ⟨.some 0, .none, .mv (.t 68)⟩]) .skip))) (.exit 0))))) (.seq (.rg true [⟨.some 69, .none, .mv (.t 0)⟩, ⟨.some 70, .none, .mv (.t 0)⟩, ⟨.some 71, .none, .lenL (.t 70)⟩, ⟨.some 72, .none, .bin .leq (.t 71) (.c (.int .i64 16))⟩, ⟨.some 73, .none, .mv (.t 72)⟩, ⟨.some 74, .some (73, true), .fa 1 (.t 10)⟩, ⟨.some 75, .some (73, true), .ld .none (.t 74)⟩, ⟨.some 76, .some (73, true), .lenS (.t 75)⟩, ⟨.some 77, .some (73, true), .fa 2 (.t 10)⟩, ⟨.some 78, .some (73, true), .ld .none (.t 77)⟩, ⟨.some 79, .some (73, true), .lenS (.t 78)⟩, ⟨.some 80, .some (73, true), .bin .add (.t 76) (.t 79)⟩, ⟨.some 81, .some (73, true), .bin .leq (.t 80) (.c (.int .i64 16384))⟩, ⟨.some 82, .none, .pick (.t 73) (.t 81) (.c (.bool false))⟩, ⟨.some 8, .none, .mv (.t 69)⟩, ⟨.some 9, .none, .mv (.t 82)⟩]) .ret))))))
def ljg : List (Nat × Def) := [(267, d267)]
structure Op9 where
  k : Int
  n : List UInt8
  d : List UInt8
def opV (o : Op9) : PV := .agg [.sc (.int .i64 o.k), txt o.n, txt o.d]
structure Op9.Sm (o : Op9) : Prop where
  n : o.n.length ≤ 4000000000
  d : o.d.length ≤ 4000000000
def theF (l : List Fl) (n : List UInt8) : Fl := (getF l n).getD ⟨n, [], []⟩
def newF (l : List Fl) (o : Op9) : Fl :=
  if o.k = 1 then { theF l o.n with t := (theF l o.n).t ++ o.d }
  else if o.k = 2 then { theF l o.n with s := (theF l o.n).s ++ (theF l o.n).t, t := [] }
  else if o.k = 3 then { theF l o.n with n := o.d }
  else theF l o.n
def doneF (l : List Fl) (o : Op9) : List Fl :=
  if o.k = 1 ∨ o.k = 2 then putF l (newF l o)
  else if o.k = 3 then putF (delF' l o.n) (newF l o)
  else delF' l o.n
def roomF (l : List Fl) (o : Op9) : Bool := decide ((doneF l o).length ≤ 16) && decide ((newF l o).s.length + (newF l o).t.length ≤ 16384)
theorem delF_len {l : List Fl} {n : List UInt8} : (delF' l n).length ≤ l.length := by
  have := posF_le l n
  unfold delF'
  simp only [List.length_append, List.length_take, List.length_drop]
  omega
theorem theF_n (l : List Fl) (n : List UInt8) : (theF l n).n = n := by
  unfold theF
  cases h : getF l n with
  | none => rfl
  | some f =>
    unfold getF at h
    have := List.find?_some h
    simpa using this
section
variable {env : Nat → Option Def} {fr : Fr} {σ σ' σ'' : St} {K : Fr → St → Prop} {Q : X → Fr → St → Prop} {p : PV} {bs : List UInt8}
theorem le16 (n : Nat) {z : Int} (hz : z = 16) : decide ((n : Int) ≤ z) = decide (n ≤ 16) := by
  subst hz
  by_cases h : n ≤ 16
  · rw [decide_eq_true h, decide_eq_true (show (n : Int) ≤ 16 by omega)]
  · rw [decide_eq_false h, decide_eq_false (show ¬ (n : Int) ≤ 16 by omega)]
theorem le16k (n : Nat) : decide ((n : Int) ≤ 16384) = decide (n ≤ 16384) := by
  by_cases h : n ≤ 16384
  · rw [decide_eq_true h, decide_eq_true (show (n : Int) ≤ 16384 by omega)]
  · rw [decide_eq_false h, decide_eq_false (show ¬ (n : Int) ≤ 16384 by omega)]
structure DoneP (σ : St) (L : List Fl) (B : Bool) (r : PV) (τ : St) : Prop where
  q : ∃ q, r = .tu [q, .sc (.bool B)] ∧ RowW τ 3 q (fls L)
  k : Kp (2000000 ≤ ·) σ τ
structure SwP (σ : St) (L : List Fl) (f : Fl) (x : X) (fr : Fr) (τ : St) : Prop where
  x : x = .normal
  q : ∃ q, fr 0 = q ∧ RowW τ 3 q (fls L)
  k : Kp (2000000 ≤ ·) σ τ
  m : τ.m 2000010 (σ.c 2000010) = some ⟨3, [fl f], true, true⟩
  f10 : fr 10 = .bx 2000010 (σ.c 2000010) 3 0 0
theorem newF_le {l : List Fl} {o : Op9} (h1 : (theF l o.n).s.length ≤ 4000000000) (h2 : (theF l o.n).t.length ≤ 4000000000) (h3 : o.d.length ≤ 4000000000) : (newF l o).s.length ≤ 9000000000 ∧ (newF l o).t.length ≤ 9000000000 := by
  generalize hF : theF l o.n = f at h1 h2
  by_cases k1 : o.k = 1
  · have e : newF l o = ⟨f.n, f.s, f.t ++ o.d⟩ := by unfold newF; rw [if_pos k1, hF]
    rw [e]
    exact ⟨show f.s.length ≤ _ by omega, show (f.t ++ o.d).length ≤ _ by rw [List.length_append]; omega⟩
  · by_cases k2 : o.k = 2
    · have e : newF l o = ⟨f.n, f.s ++ f.t, []⟩ := by unfold newF; rw [if_neg k1, if_pos k2, hF]
      rw [e]
      exact ⟨show (f.s ++ f.t).length ≤ _ by rw [List.length_append]; omega, by simp⟩
    · by_cases k3 : o.k = 3
      · have e : newF l o = ⟨o.d, f.s, f.t⟩ := by unfold newF; rw [if_neg k1, if_neg k2, if_pos k3, hF]
        rw [e]
        exact ⟨show f.s.length ≤ _ by omega, show f.t.length ≤ _ by omega⟩
      · have e : newF l o = f := by unfold newF; rw [if_neg k1, if_neg k2, if_neg k3, hF]
        rw [e]
        exact ⟨by omega, by omega⟩
theorem a267_1 (J : Has lja env) (D : Has ljd env) (O : Has ljb env) (G : Has ljf env) (G2 : Has ljg env) {l : List Fl} {o : Op9} (hw : RowW σ 3 p (fls l)) (hs : Srt l) (hl : l.length ≤ 900) (hsm : ∀ f ∈ l, f.Sm) (ho : o.Sm) (hF : Fresh σ)
    (hk1 : o.k = 1) :
    ∃ q σ', EV env 267 [p, .sc (.int .i64 (posF l o.n : Int)), .sc (.bool (hasF l o.n)), opV o] σ = some (.tu [q, .sc (.bool (roomF l o))], σ') ∧ RowW σ' 3 q (fls (doneF l o)) ∧ Kp (2000000 ≤ ·) σ σ' := by
  have hln := fls_len l
  have hle := posF_le l o.n
  obtain ⟨ok1, ok2⟩ := hw.ok
  have htn := theF_n l o.n
  have hts : (theF l o.n).s.length ≤ 4000000000 ∧ (theF l o.n).t.length ≤ 4000000000 := by
    unfold theF
    cases h : getF l o.n with
    | none => simp
    | some f => exact ⟨(hsm f ((getF_some hs).1 h).1).s, (hsm f ((getF_some hs).1 h).1).t⟩
  suffices h : ∃ r τ, EV env 267 [p, .sc (.int .i64 (posF l o.n : Int)), .sc (.bool (hasF l o.n)), opV o] σ = some (r, τ) ∧ DoneP σ (doneF l o) (roomF l o) r τ by
    obtain ⟨r, τ, h1, ⟨⟨q, rfl, h2⟩, h3⟩⟩ := h
    exact ⟨q, τ, h1, h2, h3⟩
  refine EV_wp' (σ := σ) (R := DoneP σ (doneF l o) (roomF l o)) (G2 (267, d267) (by simp [ljg])) rfl ?_
  unfold opV
  (repeat' first
    | refine w_seq ?_ | refine w_rg ?_ | refine wo_nil ?_ | refine g_skU ?_ | refine g_skT ?_ | refine g_skF ?_
    | ((first | apply s_plain | apply s_void | apply s_guard | apply g_goT | apply g_goF); · simp only [go_sem, Nat.reduceEqDiff, Nat.reduceAdd, Nat.reduceLeDiff, ok1, ok2, List.set_cons_succ]; (first | done | rfl))
    | ((first | apply g_T | apply g_F | apply g_gT | apply g_gF); · intro q1_; (first | intro q2_ | have q2_ := q1_); simp only [go_sem, Nat.reduceEqDiff, Nat.reduceAdd, Nat.reduceLeDiff, ok1, ok2, List.set_cons_succ, q1_, q2_]; (first | done | rfl))
    | fail
    )
  -- the file that is there, or none yet
  refine Wp.mono (Q := fun x fr τ => x = .normal ∧ τ.m 2000007 (σ.c 2000007) = some ⟨3, [.agg [.sc (.int .i64 o.k), txt o.n, txt o.d]], true, true⟩ ∧ τ.m 2000010 (σ.c 2000010) = some ⟨3, [fl (theF l o.n)], true, true⟩ ∧
    RowW τ 3 p (fls l) ∧ Kp (2000000 ≤ ·) σ τ ∧ fr 0 = p ∧ fr 1 = .sc (.int .i64 (posF l o.n : Int)) ∧ fr 7 = .bx 2000007 (σ.c 2000007) 3 0 0 ∧ fr 10 = .bx 2000010 (σ.c 2000010) 3 0 0) ?_ ?_
  · cases hh : hasF l o.n with
    | true =>
      obtain ⟨f0, q1, q2, q3⟩ := pos_at hs hh
      have hlt := (List.getElem?_eq_some_iff.1 q1).1
      have htf : theF l o.n = f0 := by unfold theF; rw [q3]; rfl
      rcases hw with ⟨rfl, hx⟩ | ⟨o1, g1, rfl, h3, h4⟩
      · have h0 : l.length = 0 := by rw [← hln, hx]; rfl
        omega
      · have e1 : (0 : Int) ≤ ((posF l o.n : Nat) : Int) ∧ ((posF l o.n : Nat) : Int) < ((fls l).length : Int) := by rw [hln]; omega
        have hne7 : ¬ (o1 = 2000007) := by omega
        have hne10 : ¬ (o1 = 2000010) := by omega
        have hy := fls_at q1
        unfold fl at hy
        rw [htf]
        (repeat' first
    | refine w_seq ?_ | refine w_rg ?_ | refine wo_nil ?_ | refine g_skU ?_ | refine g_skT ?_ | refine g_skF ?_
    | ((first | apply s_plain | apply s_void | apply s_guard | apply g_goT | apply g_goF); · simp only [go_sem, Nat.reduceEqDiff, Nat.reduceAdd, Nat.reduceLeDiff, e1, Int.toNat_natCast, hne7, hne10, false_and, h3, hy, List.set_cons_succ]; (first | done | rfl))
    | ((first | apply g_T | apply g_F | apply g_gT | apply g_gF); · intro q1_; (first | intro q2_ | have q2_ := q1_); simp only [go_sem, Nat.reduceEqDiff, Nat.reduceAdd, Nat.reduceLeDiff, e1, Int.toNat_natCast, hne7, hne10, false_and, h3, hy, List.set_cons_succ, q1_, q2_]; (first | done | rfl))
    | (apply w_condX; · simp only [go_sem, Nat.reduceEqDiff, Nat.reduceAdd, Nat.reduceLeDiff, e1, Int.toNat_natCast, hne7, hne10, false_and, h3, hy, List.set_cons_succ]; (first | done | rfl)); (first | refine wcd_T ?_ | refine wcd_F ?_)
    | refine w_skip ?_ | refine w_exit ?_ | refine w_ret ?_
    | fail
    )
        refine ⟨rfl, by simp only [go_sem, Nat.reduceEqDiff, Nat.reduceAdd, Nat.reduceLeDiff, List.set_cons_succ], by simp only [go_sem, Nat.reduceEqDiff, Nat.reduceAdd, Nat.reduceLeDiff, List.set_cons_succ, fl], ?_, ?_, by simp only [go_sem, Nat.reduceEqDiff, Nat.reduceAdd, Nat.reduceLeDiff], by simp only [go_sem, Nat.reduceEqDiff, Nat.reduceAdd, Nat.reduceLeDiff], by simp only [go_sem, Nat.reduceEqDiff, Nat.reduceAdd, Nat.reduceLeDiff], by simp only [go_sem, Nat.reduceEqDiff, Nat.reduceAdd, Nat.reduceLeDiff]⟩
        · exact ((((RowW.new (.inr ⟨o1, g1, rfl, h3, h4⟩) hF _ _).new (hF.new _ _) _ _).put (by decide) _).put (by decide) _)
        · exact ((((Kp.refl hF).new _ _).new _ _).put (x := ⟨3, [.agg [.sc (.string ⟨#[]⟩), .sc (.string ⟨#[]⟩), .sc (.string ⟨#[]⟩)]], true, true⟩) (by simp only [go_sem, Nat.reduceEqDiff, Nat.reduceAdd, Nat.reduceLeDiff]) (.inr (Nat.le_refl _)) _).put (x := ⟨3, [.agg [txt o.n, .sc (.string ⟨#[]⟩), .sc (.string ⟨#[]⟩)]], true, true⟩) (by simp only [go_sem, Nat.reduceEqDiff, Nat.reduceAdd, Nat.reduceLeDiff]) (.inr (Nat.le_refl _)) _
    | false =>
      have htf : theF l o.n = ⟨o.n, [], []⟩ := by
        unfold hasF at hh
        unfold theF
        rw [show getF l o.n = none by simpa using hh]; rfl
      rw [htf]
      (repeat' first
    | refine w_seq ?_ | refine w_rg ?_ | refine wo_nil ?_ | refine g_skU ?_ | refine g_skT ?_ | refine g_skF ?_
    | ((first | apply s_plain | apply s_void | apply s_guard | apply g_goT | apply g_goF); · simp only [go_sem, Nat.reduceEqDiff, Nat.reduceAdd, Nat.reduceLeDiff, List.set_cons_succ]; (first | done | rfl))
    | ((first | apply g_T | apply g_F | apply g_gT | apply g_gF); · intro q1_; (first | intro q2_ | have q2_ := q1_); simp only [go_sem, Nat.reduceEqDiff, Nat.reduceAdd, Nat.reduceLeDiff, List.set_cons_succ, q1_, q2_]; (first | done | rfl))
    | (apply w_condX; · simp only [go_sem, Nat.reduceEqDiff, Nat.reduceAdd, Nat.reduceLeDiff, List.set_cons_succ]; (first | done | rfl)); (first | refine wcd_T ?_ | refine wcd_F ?_)
    | refine w_skip ?_ | refine w_exit ?_ | refine w_ret ?_
    | fail
    )
      refine ⟨rfl, by simp only [go_sem, Nat.reduceEqDiff, Nat.reduceAdd, Nat.reduceLeDiff, List.set_cons_succ], by simp only [go_sem, Nat.reduceEqDiff, Nat.reduceAdd, Nat.reduceLeDiff, List.set_cons_succ, fl]; first | done | rfl, ?_, ?_, by simp only [go_sem, Nat.reduceEqDiff, Nat.reduceAdd, Nat.reduceLeDiff], by simp only [go_sem, Nat.reduceEqDiff, Nat.reduceAdd, Nat.reduceLeDiff], by simp only [go_sem, Nat.reduceEqDiff, Nat.reduceAdd, Nat.reduceLeDiff], by simp only [go_sem, Nat.reduceEqDiff, Nat.reduceAdd, Nat.reduceLeDiff]⟩
      · exact ((hw.new hF _ _).new (hF.new _ _) _ _).put (by decide) _
      · exact (((Kp.refl hF).new _ _).new _ _).put (x := ⟨3, [.agg [.sc (.string ⟨#[]⟩), .sc (.string ⟨#[]⟩), .sc (.string ⟨#[]⟩)]], true, true⟩) (by simp only [go_sem, Nat.reduceEqDiff, Nat.reduceAdd, Nat.reduceLeDiff]) (.inr (Nat.le_refl _)) _
  rintro x fr1 τ ⟨rfl, m7, m10, hw1, kp, f0, f1, f7, f10⟩
  try show Wp _ _ _ _ _
  (repeat' first
    | refine w_seq ?_ | refine w_rg ?_ | refine wo_nil ?_ | refine g_skU ?_ | refine g_skT ?_ | refine g_skF ?_
    | ((first | apply s_plain | apply s_void | apply s_guard | apply g_goT | apply g_goF); · simp only [go_sem, Nat.reduceEqDiff, Nat.reduceAdd, Nat.reduceLeDiff, f7, m7]; (first | done | rfl))
    | ((first | apply g_T | apply g_F | apply g_gT | apply g_gF); · intro q1_; (first | intro q2_ | have q2_ := q1_); simp only [go_sem, Nat.reduceEqDiff, Nat.reduceAdd, Nat.reduceLeDiff, f7, m7, q1_, q2_]; (first | done | rfl))
    | fail
    )
  have hlt10 : σ.c 2000010 < τ.c 2000010 := kp.f _ _ (by rw [m10]; rfl)
  refine Wp.mono (Q := SwP σ (doneF l o) (newF l o)) ?_ ?_
  · refine w_block ?_
    (repeat' first
    | refine w_seq ?_ | refine w_rg ?_ | refine wo_nil ?_ | refine g_skU ?_ | refine g_skT ?_ | refine g_skF ?_
    | ((first | apply s_plain | apply s_void | apply s_guard | apply g_goT | apply g_goF); · simp only [go_sem, Nat.reduceEqDiff, Nat.reduceAdd, Nat.reduceLeDiff]; (first | done | rfl))
    | ((first | apply g_T | apply g_F | apply g_gT | apply g_gF); · intro q1_; (first | intro q2_ | have q2_ := q1_); simp only [go_sem, Nat.reduceEqDiff, Nat.reduceAdd, Nat.reduceLeDiff, q1_, q2_]; (first | done | rfl))
    | fail
    )
    refine w_block ?_
    (repeat' first
    | refine w_seq ?_ | refine w_rg ?_ | refine wo_nil ?_ | refine g_skU ?_ | refine g_skT ?_ | refine g_skF ?_
    | ((first | apply s_plain | apply s_void | apply s_guard | apply g_goT | apply g_goF); · simp only [go_sem, Nat.reduceEqDiff, Nat.reduceAdd, Nat.reduceLeDiff]; (first | done | rfl))
    | ((first | apply g_T | apply g_F | apply g_gT | apply g_gF); · intro q1_; (first | intro q2_ | have q2_ := q1_); simp only [go_sem, Nat.reduceEqDiff, Nat.reduceAdd, Nat.reduceLeDiff, q1_, q2_]; (first | done | rfl))
    | fail
    )
    refine w_block ?_
    (repeat' first
    | refine w_seq ?_ | refine w_rg ?_ | refine wo_nil ?_ | refine g_skU ?_ | refine g_skT ?_ | refine g_skF ?_
    | ((first | apply s_plain | apply s_void | apply s_guard | apply g_goT | apply g_goF); · simp only [go_sem, Nat.reduceEqDiff, Nat.reduceAdd, Nat.reduceLeDiff]; (first | done | rfl))
    | ((first | apply g_T | apply g_F | apply g_gT | apply g_gF); · intro q1_; (first | intro q2_ | have q2_ := q1_); simp only [go_sem, Nat.reduceEqDiff, Nat.reduceAdd, Nat.reduceLeDiff, q1_, q2_]; (first | done | rfl))
    | fail
    )
    refine w_block ?_
    (repeat' first
    | refine w_seq ?_ | refine w_rg ?_ | refine wo_nil ?_ | refine g_skU ?_ | refine g_skT ?_ | refine g_skF ?_
    | ((first | apply s_plain | apply s_void | apply s_guard | apply g_goT | apply g_goF); · simp only [go_sem, Nat.reduceEqDiff, Nat.reduceAdd, Nat.reduceLeDiff]; (first | done | rfl))
    | ((first | apply g_T | apply g_F | apply g_gT | apply g_gF); · intro q1_; (first | intro q2_ | have q2_ := q1_); simp only [go_sem, Nat.reduceEqDiff, Nat.reduceAdd, Nat.reduceLeDiff, q1_, q2_]; (first | done | rfl))
    | fail
    )
    refine w_block ?_
    (repeat' first
    | refine w_seq ?_ | refine w_rg ?_ | refine wo_nil ?_ | refine g_skU ?_ | refine g_skT ?_ | refine g_skF ?_
    | ((first | apply s_plain | apply s_void | apply s_guard | apply g_goT | apply g_goF); · simp only [go_sem, Nat.reduceEqDiff, Nat.reduceAdd, Nat.reduceLeDiff]; (first | done | rfl))
    | ((first | apply g_T | apply g_F | apply g_gT | apply g_gF); · intro q1_; (first | intro q2_ | have q2_ := q1_); simp only [go_sem, Nat.reduceEqDiff, Nat.reduceAdd, Nat.reduceLeDiff, q1_, q2_]; (first | done | rfl))
    | fail
    )
    rw [hk1] at m7 ⊢
    have c1 : (theF l o.n).t.length + o.d.length ≤ 9223372036854775807 := by have := ho.d; omega
    have hnf : newF l o = ⟨(theF l o.n).n, (theF l o.n).s, (theF l o.n).t ++ o.d⟩ := by unfold newF; rw [if_pos hk1]
    have hdf : doneF l o = putF l (newF l o) := by unfold doneF; rw [if_pos (.inl hk1)]
    rw [hdf, hnf]
    unfold fl at m10
    (repeat' first
    | refine w_seq ?_ | refine w_rg ?_ | refine wo_nil ?_ | refine g_skU ?_ | refine g_skT ?_ | refine g_skF ?_
    | ((first | apply s_plain | apply s_void | apply s_guard | apply g_goT | apply g_goF); · simp only [go_sem, Nat.reduceEqDiff, Nat.reduceAdd, Nat.reduceLeDiff, beq_self_eq_true]; (first | done | rfl))
    | ((first | apply g_T | apply g_F | apply g_gT | apply g_gF); · intro q1_; (first | intro q2_ | have q2_ := q1_); simp only [go_sem, Nat.reduceEqDiff, Nat.reduceAdd, Nat.reduceLeDiff, beq_self_eq_true, q1_, q2_]; (first | done | rfl))
    | (apply w_condX; · simp only [go_sem, Nat.reduceEqDiff, Nat.reduceAdd, Nat.reduceLeDiff, beq_self_eq_true]; (first | done | rfl)); (first | refine wcd_T ?_ | refine wcd_F ?_)
    | refine w_skip ?_ | refine w_exit ?_ | refine w_ret ?_
    | fail
    )
    try simp only [if_true, if_false, Nat.reduceEqDiff, reduceCtorEq]
    try show Wp _ _ _ _ _
    (repeat' first
    | refine w_seq ?_ | refine w_rg ?_ | refine wo_nil ?_ | refine g_skU ?_ | refine g_skT ?_ | refine g_skF ?_
    | ((first | apply s_plain | apply s_void | apply s_guard | apply g_goT | apply g_goF); · simp only [go_sem, Nat.reduceEqDiff, Nat.reduceAdd, Nat.reduceLeDiff, f0, f7, f10, m7, m10, List.size_toArray, c1, List.set_cons_succ]; (first | done | rfl))
    | ((first | apply g_T | apply g_F | apply g_gT | apply g_gF); · intro q1_; (first | intro q2_ | have q2_ := q1_); simp only [go_sem, Nat.reduceEqDiff, Nat.reduceAdd, Nat.reduceLeDiff, f0, f7, f10, m7, m10, List.size_toArray, c1, List.set_cons_succ, q1_, q2_]; (first | done | rfl))
    | fail
    )
    have kq := kp.put m10 (.inr (Nat.le_refl _)) (some ⟨3, [.agg [txt (theF l o.n).n, txt (theF l o.n).s, txt ((theF l o.n).t ++ o.d)]], true, true⟩)
    obtain ⟨q, τ3, h1, h2, h3⟩ := a277 J D O G (f := ⟨(theF l o.n).n, (theF l o.n).s, (theF l o.n).t ++ o.d⟩) (hw1.put (o := 2000010) (g := σ.c 2000010) (by decide) (some ⟨3, [.agg [txt (theF l o.n).n, txt (theF l o.n).s, txt ((theF l o.n).t ++ o.d)]], true, true⟩)) hs (by omega) kq.f
    refine s_plain (v := q) (σ' := τ3) (by simp only [go_sem, Nat.reduceEqDiff, Nat.reduceAdd, Nat.reduceLeDiff]; exact h1) ?_
    have k3 := kq.trans h3
    have m3 : τ3.m 2000010 (σ.c 2000010) = some ⟨3, [.agg [txt (theF l o.n).n, txt (theF l o.n).s, txt ((theF l o.n).t ++ o.d)]], true, true⟩ := by
      rw [h3.m 2000010 (σ.c 2000010) (by decide) hlt10]; simp only [go_sem, Nat.reduceEqDiff, Nat.reduceAdd, Nat.reduceLeDiff]
    (repeat' first
    | refine w_seq ?_ | refine w_rg ?_ | refine wo_nil ?_ | refine g_skU ?_ | refine g_skT ?_ | refine g_skF ?_
    | ((first | apply s_plain | apply s_void | apply s_guard | apply g_goT | apply g_goF); · simp only [go_sem, Nat.reduceEqDiff, Nat.reduceAdd, Nat.reduceLeDiff]; (first | done | rfl))
    | ((first | apply g_T | apply g_F | apply g_gT | apply g_gF); · intro q1_; (first | intro q2_ | have q2_ := q1_); simp only [go_sem, Nat.reduceEqDiff, Nat.reduceAdd, Nat.reduceLeDiff, q1_, q2_]; (first | done | rfl))
    | (apply w_condX; · simp only [go_sem, Nat.reduceEqDiff, Nat.reduceAdd, Nat.reduceLeDiff]; (first | done | rfl)); (first | refine wcd_T ?_ | refine wcd_F ?_)
    | refine w_skip ?_ | refine w_exit ?_ | refine w_ret ?_
    | fail
    )
    try simp only [if_true, if_false, Nat.reduceEqDiff, reduceCtorEq]
    exact ⟨rfl, ⟨q, by simp only [go_sem, Nat.reduceEqDiff, Nat.reduceAdd, Nat.reduceLeDiff], h2⟩, k3, m3, by simp only [go_sem, Nat.reduceEqDiff, Nat.reduceAdd, Nat.reduceLeDiff, f10]⟩
  · rintro x fr2 τ2 ⟨rfl, ⟨q, g0, hq⟩, kq, mq, g10⟩
    try show Wp _ _ _ _ _
    have hlp := hq.lenP
    have hdl := fls_len (doneF l o)
    obtain ⟨ok3, ok4⟩ := hq.ok
    unfold fl at mq
    have hnf1 := newF_le hts.1 hts.2 ho.d
    have hroom : roomF l o = (decide ((doneF l o).length ≤ 16) && decide ((newF l o).s.length + (newF l o).t.length ≤ 16384)) := rfl
    rw [hroom]
    clear hroom hw1 m7 m10 htn hts
    generalize newF l o = nf at mq hnf1 ⊢
    generalize hdd : doneF l o = df at hq hlp hdl ⊢
    have w1 : IntKind.i64.wrap ((nf.s.length : Int) + (nf.t.length : Int)) = ((nf.s.length + nf.t.length : Nat) : Int) := by rw [IntKind.wrap_i64]; omega
    have e1 := le16k (nf.s.length + nf.t.length)
    have e2 := le16 df.length (z := 16) rfl
    generalize decide (nf.s.length + nf.t.length ≤ 16384) = B at e1 ⊢
    generalize decide (df.length ≤ 16) = C at e2 ⊢
    cases C with
    | true =>
      refine w_seq (w_rg ?_)
      refine s_plain (v := q) (σ' := τ2) (by simp only [go_sem, Nat.reduceEqDiff, Nat.reduceAdd, Nat.reduceLeDiff, g0]) ?_
      refine s_plain (v := q) (σ' := τ2) (by simp only [go_sem, Nat.reduceEqDiff, Nat.reduceAdd, Nat.reduceLeDiff, g0]) ?_
      refine s_plain (v := .sc (.int .i64 (df.length : Int))) (σ' := τ2) (by simp only [go_sem, Nat.reduceEqDiff, Nat.reduceAdd, Nat.reduceLeDiff, hlp, hdl]; first | done | rfl) ?_
      refine s_plain (v := .sc (.bool true)) (σ' := τ2) (by simp only [go_sem, Nat.reduceEqDiff, Nat.reduceAdd, Nat.reduceLeDiff, e2]) ?_
      refine s_plain (v := .sc (.bool true)) (σ' := τ2) (by simp only [go_sem, Nat.reduceEqDiff, Nat.reduceAdd, Nat.reduceLeDiff]) ?_
      refine s_guard (g := .sc (.bool true)) (by simp only [go_sem, Nat.reduceEqDiff, Nat.reduceAdd, Nat.reduceLeDiff]) ?_
      refine g_goT (v := .bx 2000010 (σ.c 2000010) 3 0 1) (σ' := τ2) (by simp only [go_sem, Nat.reduceEqDiff, Nat.reduceAdd, Nat.reduceLeDiff, g10]) ?_
      refine s_guard (g := .sc (.bool true)) (by simp only [go_sem, Nat.reduceEqDiff, Nat.reduceAdd, Nat.reduceLeDiff]) ?_
      refine g_goT (v := txt nf.s) (σ' := τ2) (by simp only [go_sem, Nat.reduceEqDiff, Nat.reduceAdd, Nat.reduceLeDiff, mq]) ?_
      refine s_guard (g := .sc (.bool true)) (by simp only [go_sem, Nat.reduceEqDiff, Nat.reduceAdd, Nat.reduceLeDiff]) ?_
      refine g_goT (v := .sc (.int .i64 (nf.s.length : Int))) (σ' := τ2) (by simp only [go_sem, Nat.reduceEqDiff, Nat.reduceAdd, Nat.reduceLeDiff, List.size_toArray]) ?_
      refine s_guard (g := .sc (.bool true)) (by simp only [go_sem, Nat.reduceEqDiff, Nat.reduceAdd, Nat.reduceLeDiff]) ?_
      refine g_goT (v := .bx 2000010 (σ.c 2000010) 3 0 2) (σ' := τ2) (by simp only [go_sem, Nat.reduceEqDiff, Nat.reduceAdd, Nat.reduceLeDiff, g10]) ?_
      refine s_guard (g := .sc (.bool true)) (by simp only [go_sem, Nat.reduceEqDiff, Nat.reduceAdd, Nat.reduceLeDiff]) ?_
      refine g_goT (v := txt nf.t) (σ' := τ2) (by simp only [go_sem, Nat.reduceEqDiff, Nat.reduceAdd, Nat.reduceLeDiff, mq]) ?_
      refine s_guard (g := .sc (.bool true)) (by simp only [go_sem, Nat.reduceEqDiff, Nat.reduceAdd, Nat.reduceLeDiff]) ?_
      refine g_goT (v := .sc (.int .i64 (nf.t.length : Int))) (σ' := τ2) (by simp only [go_sem, Nat.reduceEqDiff, Nat.reduceAdd, Nat.reduceLeDiff, List.size_toArray]) ?_
      refine s_guard (g := .sc (.bool true)) (by simp only [go_sem, Nat.reduceEqDiff, Nat.reduceAdd, Nat.reduceLeDiff]) ?_
      refine g_goT (v := .sc (.int .i64 ((nf.s.length + nf.t.length : Nat) : Int))) (σ' := τ2) (by simp only [go_sem, Nat.reduceEqDiff, Nat.reduceAdd, Nat.reduceLeDiff, w1]) ?_
      refine s_guard (g := .sc (.bool true)) (by simp only [go_sem, Nat.reduceEqDiff, Nat.reduceAdd, Nat.reduceLeDiff]) ?_
      refine g_goT (v := .sc (.bool B)) (σ' := τ2) (by simp only [go_sem, Nat.reduceEqDiff, Nat.reduceAdd, Nat.reduceLeDiff, e1]) ?_
      refine s_plain (v := .sc (.bool B)) (σ' := τ2) (by simp only [go_sem, Nat.reduceEqDiff, Nat.reduceAdd, Nat.reduceLeDiff]) ?_
      refine s_plain (v := q) (σ' := τ2) (by simp only [go_sem, Nat.reduceEqDiff, Nat.reduceAdd, Nat.reduceLeDiff]) ?_
      refine s_plain (v := .sc (.bool B)) (σ' := τ2) (by simp only [go_sem, Nat.reduceEqDiff, Nat.reduceAdd, Nat.reduceLeDiff]) ?_
      refine wo_nil (w_ret ?_)
      exact ⟨.inr rfl, .tu [q, .sc (.bool B)], by simp only [go_sem, Nat.reduceEqDiff, Nat.reduceAdd, Nat.reduceLeDiff, retOf, resOf], ⟨⟨q, rfl, hq⟩, kq⟩⟩
    | false =>
      refine w_seq (w_rg ?_)
      refine s_plain (v := q) (σ' := τ2) (by simp only [go_sem, Nat.reduceEqDiff, Nat.reduceAdd, Nat.reduceLeDiff, g0]) ?_
      refine s_plain (v := q) (σ' := τ2) (by simp only [go_sem, Nat.reduceEqDiff, Nat.reduceAdd, Nat.reduceLeDiff, g0]) ?_
      refine s_plain (v := .sc (.int .i64 (df.length : Int))) (σ' := τ2) (by simp only [go_sem, Nat.reduceEqDiff, Nat.reduceAdd, Nat.reduceLeDiff, hlp, hdl]; first | done | rfl) ?_
      refine s_plain (v := .sc (.bool false)) (σ' := τ2) (by simp only [go_sem, Nat.reduceEqDiff, Nat.reduceAdd, Nat.reduceLeDiff, e2]) ?_
      refine s_plain (v := .sc (.bool false)) (σ' := τ2) (by simp only [go_sem, Nat.reduceEqDiff, Nat.reduceAdd, Nat.reduceLeDiff]) ?_
      iterate 8 (refine s_guard (g := .sc (.bool false)) (by simp only [go_sem, Nat.reduceEqDiff, Nat.reduceAdd, Nat.reduceLeDiff]) ?_; refine g_skT ?_)
      refine s_plain (v := .sc (.bool false)) (σ' := τ2) (by simp only [go_sem, Nat.reduceEqDiff, Nat.reduceAdd, Nat.reduceLeDiff]) ?_
      refine s_plain (v := q) (σ' := τ2) (by simp only [go_sem, Nat.reduceEqDiff, Nat.reduceAdd, Nat.reduceLeDiff]) ?_
      refine s_plain (v := .sc (.bool false)) (σ' := τ2) (by simp only [go_sem, Nat.reduceEqDiff, Nat.reduceAdd, Nat.reduceLeDiff]) ?_
      refine wo_nil (w_ret ?_)
      exact ⟨.inr rfl, .tu [q, .sc (.bool false)], by simp only [go_sem, Nat.reduceEqDiff, Nat.reduceAdd, Nat.reduceLeDiff, retOf, resOf], ⟨⟨q, rfl, hq⟩, kq⟩⟩
theorem a267_2 (J : Has lja env) (D : Has ljd env) (O : Has ljb env) (G : Has ljf env) (G2 : Has ljg env) {l : List Fl} {o : Op9} (hw : RowW σ 3 p (fls l)) (hs : Srt l) (hl : l.length ≤ 900) (hsm : ∀ f ∈ l, f.Sm) (ho : o.Sm) (hF : Fresh σ)
    (hh : hasF l o.n = true) (hk2 : o.k = 2) :
    ∃ q σ', EV env 267 [p, .sc (.int .i64 (posF l o.n : Int)), .sc (.bool (hasF l o.n)), opV o] σ = some (.tu [q, .sc (.bool (roomF l o))], σ') ∧ RowW σ' 3 q (fls (doneF l o)) ∧ Kp (2000000 ≤ ·) σ σ' := by
  have hln := fls_len l
  have hle := posF_le l o.n
  obtain ⟨ok1, ok2⟩ := hw.ok
  have htn := theF_n l o.n
  have hts : (theF l o.n).s.length ≤ 4000000000 ∧ (theF l o.n).t.length ≤ 4000000000 := by
    unfold theF
    cases h : getF l o.n with
    | none => simp
    | some f => exact ⟨(hsm f ((getF_some hs).1 h).1).s, (hsm f ((getF_some hs).1 h).1).t⟩
  suffices h : ∃ r τ, EV env 267 [p, .sc (.int .i64 (posF l o.n : Int)), .sc (.bool (hasF l o.n)), opV o] σ = some (r, τ) ∧ DoneP σ (doneF l o) (roomF l o) r τ by
    obtain ⟨r, τ, h1, ⟨⟨q, rfl, h2⟩, h3⟩⟩ := h
    exact ⟨q, τ, h1, h2, h3⟩
  refine EV_wp' (σ := σ) (R := DoneP σ (doneF l o) (roomF l o)) (G2 (267, d267) (by simp [ljg])) rfl ?_
  unfold opV
  (repeat' first
    | refine w_seq ?_ | refine w_rg ?_ | refine wo_nil ?_ | refine g_skU ?_ | refine g_skT ?_ | refine g_skF ?_
    | ((first | apply s_plain | apply s_void | apply s_guard | apply g_goT | apply g_goF); · simp only [go_sem, Nat.reduceEqDiff, Nat.reduceAdd, Nat.reduceLeDiff, ok1, ok2, List.set_cons_succ]; (first | done | rfl))
    | ((first | apply g_T | apply g_F | apply g_gT | apply g_gF); · intro q1_; (first | intro q2_ | have q2_ := q1_); simp only [go_sem, Nat.reduceEqDiff, Nat.reduceAdd, Nat.reduceLeDiff, ok1, ok2, List.set_cons_succ, q1_, q2_]; (first | done | rfl))
    | fail
    )
  -- the file that is there, or none yet
  refine Wp.mono (Q := fun x fr τ => x = .normal ∧ τ.m 2000007 (σ.c 2000007) = some ⟨3, [.agg [.sc (.int .i64 o.k), txt o.n, txt o.d]], true, true⟩ ∧ τ.m 2000010 (σ.c 2000010) = some ⟨3, [fl (theF l o.n)], true, true⟩ ∧
    RowW τ 3 p (fls l) ∧ Kp (2000000 ≤ ·) σ τ ∧ fr 0 = p ∧ fr 1 = .sc (.int .i64 (posF l o.n : Int)) ∧ fr 7 = .bx 2000007 (σ.c 2000007) 3 0 0 ∧ fr 10 = .bx 2000010 (σ.c 2000010) 3 0 0) ?_ ?_
  · cases hh : hasF l o.n with
    | true =>
      obtain ⟨f0, q1, q2, q3⟩ := pos_at hs hh
      have hlt := (List.getElem?_eq_some_iff.1 q1).1
      have htf : theF l o.n = f0 := by unfold theF; rw [q3]; rfl
      rcases hw with ⟨rfl, hx⟩ | ⟨o1, g1, rfl, h3, h4⟩
      · have h0 : l.length = 0 := by rw [← hln, hx]; rfl
        omega
      · have e1 : (0 : Int) ≤ ((posF l o.n : Nat) : Int) ∧ ((posF l o.n : Nat) : Int) < ((fls l).length : Int) := by rw [hln]; omega
        have hne7 : ¬ (o1 = 2000007) := by omega
        have hne10 : ¬ (o1 = 2000010) := by omega
        have hy := fls_at q1
        unfold fl at hy
        rw [htf]
        (repeat' first
    | refine w_seq ?_ | refine w_rg ?_ | refine wo_nil ?_ | refine g_skU ?_ | refine g_skT ?_ | refine g_skF ?_
    | ((first | apply s_plain | apply s_void | apply s_guard | apply g_goT | apply g_goF); · simp only [go_sem, Nat.reduceEqDiff, Nat.reduceAdd, Nat.reduceLeDiff, e1, Int.toNat_natCast, hne7, hne10, false_and, h3, hy, List.set_cons_succ]; (first | done | rfl))
    | ((first | apply g_T | apply g_F | apply g_gT | apply g_gF); · intro q1_; (first | intro q2_ | have q2_ := q1_); simp only [go_sem, Nat.reduceEqDiff, Nat.reduceAdd, Nat.reduceLeDiff, e1, Int.toNat_natCast, hne7, hne10, false_and, h3, hy, List.set_cons_succ, q1_, q2_]; (first | done | rfl))
    | (apply w_condX; · simp only [go_sem, Nat.reduceEqDiff, Nat.reduceAdd, Nat.reduceLeDiff, e1, Int.toNat_natCast, hne7, hne10, false_and, h3, hy, List.set_cons_succ]; (first | done | rfl)); (first | refine wcd_T ?_ | refine wcd_F ?_)
    | refine w_skip ?_ | refine w_exit ?_ | refine w_ret ?_
    | fail
    )
        refine ⟨rfl, by simp only [go_sem, Nat.reduceEqDiff, Nat.reduceAdd, Nat.reduceLeDiff, List.set_cons_succ], by simp only [go_sem, Nat.reduceEqDiff, Nat.reduceAdd, Nat.reduceLeDiff, List.set_cons_succ, fl], ?_, ?_, by simp only [go_sem, Nat.reduceEqDiff, Nat.reduceAdd, Nat.reduceLeDiff], by simp only [go_sem, Nat.reduceEqDiff, Nat.reduceAdd, Nat.reduceLeDiff], by simp only [go_sem, Nat.reduceEqDiff, Nat.reduceAdd, Nat.reduceLeDiff], by simp only [go_sem, Nat.reduceEqDiff, Nat.reduceAdd, Nat.reduceLeDiff]⟩
        · exact ((((RowW.new (.inr ⟨o1, g1, rfl, h3, h4⟩) hF _ _).new (hF.new _ _) _ _).put (by decide) _).put (by decide) _)
        · exact ((((Kp.refl hF).new _ _).new _ _).put (x := ⟨3, [.agg [.sc (.string ⟨#[]⟩), .sc (.string ⟨#[]⟩), .sc (.string ⟨#[]⟩)]], true, true⟩) (by simp only [go_sem, Nat.reduceEqDiff, Nat.reduceAdd, Nat.reduceLeDiff]) (.inr (Nat.le_refl _)) _).put (x := ⟨3, [.agg [txt o.n, .sc (.string ⟨#[]⟩), .sc (.string ⟨#[]⟩)]], true, true⟩) (by simp only [go_sem, Nat.reduceEqDiff, Nat.reduceAdd, Nat.reduceLeDiff]) (.inr (Nat.le_refl _)) _
    | false =>
      have htf : theF l o.n = ⟨o.n, [], []⟩ := by
        unfold hasF at hh
        unfold theF
        rw [show getF l o.n = none by simpa using hh]; rfl
      rw [htf]
      (repeat' first
    | refine w_seq ?_ | refine w_rg ?_ | refine wo_nil ?_ | refine g_skU ?_ | refine g_skT ?_ | refine g_skF ?_
    | ((first | apply s_plain | apply s_void | apply s_guard | apply g_goT | apply g_goF); · simp only [go_sem, Nat.reduceEqDiff, Nat.reduceAdd, Nat.reduceLeDiff, List.set_cons_succ]; (first | done | rfl))
    | ((first | apply g_T | apply g_F | apply g_gT | apply g_gF); · intro q1_; (first | intro q2_ | have q2_ := q1_); simp only [go_sem, Nat.reduceEqDiff, Nat.reduceAdd, Nat.reduceLeDiff, List.set_cons_succ, q1_, q2_]; (first | done | rfl))
    | (apply w_condX; · simp only [go_sem, Nat.reduceEqDiff, Nat.reduceAdd, Nat.reduceLeDiff, List.set_cons_succ]; (first | done | rfl)); (first | refine wcd_T ?_ | refine wcd_F ?_)
    | refine w_skip ?_ | refine w_exit ?_ | refine w_ret ?_
    | fail
    )
      refine ⟨rfl, by simp only [go_sem, Nat.reduceEqDiff, Nat.reduceAdd, Nat.reduceLeDiff, List.set_cons_succ], by simp only [go_sem, Nat.reduceEqDiff, Nat.reduceAdd, Nat.reduceLeDiff, List.set_cons_succ, fl]; first | done | rfl, ?_, ?_, by simp only [go_sem, Nat.reduceEqDiff, Nat.reduceAdd, Nat.reduceLeDiff], by simp only [go_sem, Nat.reduceEqDiff, Nat.reduceAdd, Nat.reduceLeDiff], by simp only [go_sem, Nat.reduceEqDiff, Nat.reduceAdd, Nat.reduceLeDiff], by simp only [go_sem, Nat.reduceEqDiff, Nat.reduceAdd, Nat.reduceLeDiff]⟩
      · exact ((hw.new hF _ _).new (hF.new _ _) _ _).put (by decide) _
      · exact (((Kp.refl hF).new _ _).new _ _).put (x := ⟨3, [.agg [.sc (.string ⟨#[]⟩), .sc (.string ⟨#[]⟩), .sc (.string ⟨#[]⟩)]], true, true⟩) (by simp only [go_sem, Nat.reduceEqDiff, Nat.reduceAdd, Nat.reduceLeDiff]) (.inr (Nat.le_refl _)) _
  rintro x fr1 τ ⟨rfl, m7, m10, hw1, kp, f0, f1, f7, f10⟩
  try show Wp _ _ _ _ _
  (repeat' first
    | refine w_seq ?_ | refine w_rg ?_ | refine wo_nil ?_ | refine g_skU ?_ | refine g_skT ?_ | refine g_skF ?_
    | ((first | apply s_plain | apply s_void | apply s_guard | apply g_goT | apply g_goF); · simp only [go_sem, Nat.reduceEqDiff, Nat.reduceAdd, Nat.reduceLeDiff, f7, m7]; (first | done | rfl))
    | ((first | apply g_T | apply g_F | apply g_gT | apply g_gF); · intro q1_; (first | intro q2_ | have q2_ := q1_); simp only [go_sem, Nat.reduceEqDiff, Nat.reduceAdd, Nat.reduceLeDiff, f7, m7, q1_, q2_]; (first | done | rfl))
    | fail
    )
  have hlt10 : σ.c 2000010 < τ.c 2000010 := kp.f _ _ (by rw [m10]; rfl)
  refine Wp.mono (Q := SwP σ (doneF l o) (newF l o)) ?_ ?_
  · refine w_block ?_
    (repeat' first
    | refine w_seq ?_ | refine w_rg ?_ | refine wo_nil ?_ | refine g_skU ?_ | refine g_skT ?_ | refine g_skF ?_
    | ((first | apply s_plain | apply s_void | apply s_guard | apply g_goT | apply g_goF); · simp only [go_sem, Nat.reduceEqDiff, Nat.reduceAdd, Nat.reduceLeDiff]; (first | done | rfl))
    | ((first | apply g_T | apply g_F | apply g_gT | apply g_gF); · intro q1_; (first | intro q2_ | have q2_ := q1_); simp only [go_sem, Nat.reduceEqDiff, Nat.reduceAdd, Nat.reduceLeDiff, q1_, q2_]; (first | done | rfl))
    | fail
    )
    refine w_block ?_
    (repeat' first
    | refine w_seq ?_ | refine w_rg ?_ | refine wo_nil ?_ | refine g_skU ?_ | refine g_skT ?_ | refine g_skF ?_
    | ((first | apply s_plain | apply s_void | apply s_guard | apply g_goT | apply g_goF); · simp only [go_sem, Nat.reduceEqDiff, Nat.reduceAdd, Nat.reduceLeDiff]; (first | done | rfl))
    | ((first | apply g_T | apply g_F | apply g_gT | apply g_gF); · intro q1_; (first | intro q2_ | have q2_ := q1_); simp only [go_sem, Nat.reduceEqDiff, Nat.reduceAdd, Nat.reduceLeDiff, q1_, q2_]; (first | done | rfl))
    | fail
    )
    refine w_block ?_
    (repeat' first
    | refine w_seq ?_ | refine w_rg ?_ | refine wo_nil ?_ | refine g_skU ?_ | refine g_skT ?_ | refine g_skF ?_
    | ((first | apply s_plain | apply s_void | apply s_guard | apply g_goT | apply g_goF); · simp only [go_sem, Nat.reduceEqDiff, Nat.reduceAdd, Nat.reduceLeDiff]; (first | done | rfl))
    | ((first | apply g_T | apply g_F | apply g_gT | apply g_gF); · intro q1_; (first | intro q2_ | have q2_ := q1_); simp only [go_sem, Nat.reduceEqDiff, Nat.reduceAdd, Nat.reduceLeDiff, q1_, q2_]; (first | done | rfl))
    | fail
    )
    refine w_block ?_
    (repeat' first
    | refine w_seq ?_ | refine w_rg ?_ | refine wo_nil ?_ | refine g_skU ?_ | refine g_skT ?_ | refine g_skF ?_
    | ((first | apply s_plain | apply s_void | apply s_guard | apply g_goT | apply g_goF); · simp only [go_sem, Nat.reduceEqDiff, Nat.reduceAdd, Nat.reduceLeDiff]; (first | done | rfl))
    | ((first | apply g_T | apply g_F | apply g_gT | apply g_gF); · intro q1_; (first | intro q2_ | have q2_ := q1_); simp only [go_sem, Nat.reduceEqDiff, Nat.reduceAdd, Nat.reduceLeDiff, q1_, q2_]; (first | done | rfl))
    | fail
    )
    refine w_block ?_
    (repeat' first
    | refine w_seq ?_ | refine w_rg ?_ | refine wo_nil ?_ | refine g_skU ?_ | refine g_skT ?_ | refine g_skF ?_
    | ((first | apply s_plain | apply s_void | apply s_guard | apply g_goT | apply g_goF); · simp only [go_sem, Nat.reduceEqDiff, Nat.reduceAdd, Nat.reduceLeDiff]; (first | done | rfl))
    | ((first | apply g_T | apply g_F | apply g_gT | apply g_gF); · intro q1_; (first | intro q2_ | have q2_ := q1_); simp only [go_sem, Nat.reduceEqDiff, Nat.reduceAdd, Nat.reduceLeDiff, q1_, q2_]; (first | done | rfl))
    | fail
    )
    rw [hk2] at m7 ⊢
    have c1 : (theF l o.n).s.length + (theF l o.n).t.length ≤ 9223372036854775807 := by omega
    have hnf : newF l o = ⟨(theF l o.n).n, (theF l o.n).s ++ (theF l o.n).t, []⟩ := by unfold newF; rw [if_neg (by omega), if_pos hk2]
    have hdf : doneF l o = putF l (newF l o) := by unfold doneF; rw [if_pos (.inr hk2)]
    rw [hdf, hnf]
    unfold fl at m10
    have d1 : ((2 : Int) == 1) = false := rfl
    (repeat' first
    | refine w_seq ?_ | refine w_rg ?_ | refine wo_nil ?_ | refine g_skU ?_ | refine g_skT ?_ | refine g_skF ?_
    | ((first | apply s_plain | apply s_void | apply s_guard | apply g_goT | apply g_goF); · simp only [go_sem, Nat.reduceEqDiff, Nat.reduceAdd, Nat.reduceLeDiff, beq_self_eq_true, d1]; (first | done | rfl))
    | ((first | apply g_T | apply g_F | apply g_gT | apply g_gF); · intro q1_; (first | intro q2_ | have q2_ := q1_); simp only [go_sem, Nat.reduceEqDiff, Nat.reduceAdd, Nat.reduceLeDiff, beq_self_eq_true, d1, q1_, q2_]; (first | done | rfl))
    | (apply w_condX; · simp only [go_sem, Nat.reduceEqDiff, Nat.reduceAdd, Nat.reduceLeDiff, beq_self_eq_true, d1]; (first | done | rfl)); (first | refine wcd_T ?_ | refine wcd_F ?_)
    | refine w_skip ?_ | refine w_exit ?_ | refine w_ret ?_
    | fail
    )
    try simp only [if_true, if_false, Nat.reduceEqDiff, reduceCtorEq]
    try show Wp _ _ _ _ _
    (repeat' first
    | refine w_seq ?_ | refine w_rg ?_ | refine wo_nil ?_ | refine g_skU ?_ | refine g_skT ?_ | refine g_skF ?_
    | ((first | apply s_plain | apply s_void | apply s_guard | apply g_goT | apply g_goF); · simp only [go_sem, Nat.reduceEqDiff, Nat.reduceAdd, Nat.reduceLeDiff, f0, f7, f10, m7, m10, List.size_toArray, c1, List.set_cons_succ]; (first | done | rfl))
    | ((first | apply g_T | apply g_F | apply g_gT | apply g_gF); · intro q1_; (first | intro q2_ | have q2_ := q1_); simp only [go_sem, Nat.reduceEqDiff, Nat.reduceAdd, Nat.reduceLeDiff, f0, f7, f10, m7, m10, List.size_toArray, c1, List.set_cons_succ, q1_, q2_]; (first | done | rfl))
    | fail
    )
    have kq := (kp.put m10 (.inr (Nat.le_refl _)) (some ⟨3, [.agg [txt (theF l o.n).n, txt ((theF l o.n).s ++ (theF l o.n).t), txt (theF l o.n).t]], true, true⟩)).put (o := 2000010) (g := σ.c 2000010) (x := ⟨3, [.agg [txt (theF l o.n).n, txt ((theF l o.n).s ++ (theF l o.n).t), txt (theF l o.n).t]], true, true⟩) (by simp only [go_sem, Nat.reduceEqDiff, Nat.reduceAdd, Nat.reduceLeDiff]) (.inr (Nat.le_refl _)) (some ⟨3, [.agg [txt (theF l o.n).n, txt ((theF l o.n).s ++ (theF l o.n).t), txt []]], true, true⟩)
    obtain ⟨q, τ3, h1, h2, h3⟩ := a277 J D O G (f := ⟨(theF l o.n).n, (theF l o.n).s ++ (theF l o.n).t, []⟩) ((hw1.put (o := 2000010) (g := σ.c 2000010) (by decide) (some ⟨3, [.agg [txt (theF l o.n).n, txt ((theF l o.n).s ++ (theF l o.n).t), txt (theF l o.n).t]], true, true⟩)).put (o := 2000010) (g := σ.c 2000010) (by decide) (some ⟨3, [.agg [txt (theF l o.n).n, txt ((theF l o.n).s ++ (theF l o.n).t), txt []]], true, true⟩)) hs (by omega) kq.f
    refine s_plain (v := q) (σ' := τ3) (by simp only [go_sem, Nat.reduceEqDiff, Nat.reduceAdd, Nat.reduceLeDiff]; exact h1) ?_
    have k3 := kq.trans h3
    have m3 : τ3.m 2000010 (σ.c 2000010) = some ⟨3, [.agg [txt (theF l o.n).n, txt ((theF l o.n).s ++ (theF l o.n).t), txt []]], true, true⟩ := by
      rw [h3.m 2000010 (σ.c 2000010) (by decide) hlt10]; simp only [go_sem, Nat.reduceEqDiff, Nat.reduceAdd, Nat.reduceLeDiff]
    (repeat' first
    | refine w_seq ?_ | refine w_rg ?_ | refine wo_nil ?_ | refine g_skU ?_ | refine g_skT ?_ | refine g_skF ?_
    | ((first | apply s_plain | apply s_void | apply s_guard | apply g_goT | apply g_goF); · simp only [go_sem, Nat.reduceEqDiff, Nat.reduceAdd, Nat.reduceLeDiff]; (first | done | rfl))
    | ((first | apply g_T | apply g_F | apply g_gT | apply g_gF); · intro q1_; (first | intro q2_ | have q2_ := q1_); simp only [go_sem, Nat.reduceEqDiff, Nat.reduceAdd, Nat.reduceLeDiff, q1_, q2_]; (first | done | rfl))
    | (apply w_condX; · simp only [go_sem, Nat.reduceEqDiff, Nat.reduceAdd, Nat.reduceLeDiff]; (first | done | rfl)); (first | refine wcd_T ?_ | refine wcd_F ?_)
    | refine w_skip ?_ | refine w_exit ?_ | refine w_ret ?_
    | fail
    )
    try simp only [if_true, if_false, Nat.reduceEqDiff, reduceCtorEq]
    exact ⟨rfl, ⟨q, by simp only [go_sem, Nat.reduceEqDiff, Nat.reduceAdd, Nat.reduceLeDiff], h2⟩, k3, m3, by simp only [go_sem, Nat.reduceEqDiff, Nat.reduceAdd, Nat.reduceLeDiff, f10]⟩
  · rintro x fr2 τ2 ⟨rfl, ⟨q, g0, hq⟩, kq, mq, g10⟩
    try show Wp _ _ _ _ _
    have hlp := hq.lenP
    have hdl := fls_len (doneF l o)
    obtain ⟨ok3, ok4⟩ := hq.ok
    unfold fl at mq
    have hnf1 := newF_le hts.1 hts.2 ho.d
    have hroom : roomF l o = (decide ((doneF l o).length ≤ 16) && decide ((newF l o).s.length + (newF l o).t.length ≤ 16384)) := rfl
    rw [hroom]
    clear hroom hw1 m7 m10 htn hts
    generalize newF l o = nf at mq hnf1 ⊢
    generalize hdd : doneF l o = df at hq hlp hdl ⊢
    have w1 : IntKind.i64.wrap ((nf.s.length : Int) + (nf.t.length : Int)) = ((nf.s.length + nf.t.length : Nat) : Int) := by rw [IntKind.wrap_i64]; omega
    have e1 := le16k (nf.s.length + nf.t.length)
    have e2 := le16 df.length (z := 16) rfl
    generalize decide (nf.s.length + nf.t.length ≤ 16384) = B at e1 ⊢
    generalize decide (df.length ≤ 16) = C at e2 ⊢
    cases C with
    | true =>
      refine w_seq (w_rg ?_)
      refine s_plain (v := q) (σ' := τ2) (by simp only [go_sem, Nat.reduceEqDiff, Nat.reduceAdd, Nat.reduceLeDiff, g0]) ?_
      refine s_plain (v := q) (σ' := τ2) (by simp only [go_sem, Nat.reduceEqDiff, Nat.reduceAdd, Nat.reduceLeDiff, g0]) ?_
      refine s_plain (v := .sc (.int .i64 (df.length : Int))) (σ' := τ2) (by simp only [go_sem, Nat.reduceEqDiff, Nat.reduceAdd, Nat.reduceLeDiff, hlp, hdl]; first | done | rfl) ?_
      refine s_plain (v := .sc (.bool true)) (σ' := τ2) (by simp only [go_sem, Nat.reduceEqDiff, Nat.reduceAdd, Nat.reduceLeDiff, e2]) ?_
      refine s_plain (v := .sc (.bool true)) (σ' := τ2) (by simp only [go_sem, Nat.reduceEqDiff, Nat.reduceAdd, Nat.reduceLeDiff]) ?_
      refine s_guard (g := .sc (.bool true)) (by simp only [go_sem, Nat.reduceEqDiff, Nat.reduceAdd, Nat.reduceLeDiff]) ?_
      refine g_goT (v := .bx 2000010 (σ.c 2000010) 3 0 1) (σ' := τ2) (by simp only [go_sem, Nat.reduceEqDiff, Nat.reduceAdd, Nat.reduceLeDiff, g10]) ?_
      refine s_guard (g := .sc (.bool true)) (by simp only [go_sem, Nat.reduceEqDiff, Nat.reduceAdd, Nat.reduceLeDiff]) ?_
      refine g_goT (v := txt nf.s) (σ' := τ2) (by simp only [go_sem, Nat.reduceEqDiff, Nat.reduceAdd, Nat.reduceLeDiff, mq]) ?_
      refine s_guard (g := .sc (.bool true)) (by simp only [go_sem, Nat.reduceEqDiff, Nat.reduceAdd, Nat.reduceLeDiff]) ?_
      refine g_goT (v := .sc (.int .i64 (nf.s.length : Int))) (σ' := τ2) (by simp only [go_sem, Nat.reduceEqDiff, Nat.reduceAdd, Nat.reduceLeDiff, List.size_toArray]) ?_
      refine s_guard (g := .sc (.bool true)) (by simp only [go_sem, Nat.reduceEqDiff, Nat.reduceAdd, Nat.reduceLeDiff]) ?_
      refine g_goT (v := .bx 2000010 (σ.c 2000010) 3 0 2) (σ' := τ2) (by simp only [go_sem, Nat.reduceEqDiff, Nat.reduceAdd, Nat.reduceLeDiff, g10]) ?_
      refine s_guard (g := .sc (.bool true)) (by simp only [go_sem, Nat.reduceEqDiff, Nat.reduceAdd, Nat.reduceLeDiff]) ?_
      refine g_goT (v := txt nf.t) (σ' := τ2) (by simp only [go_sem, Nat.reduceEqDiff, Nat.reduceAdd, Nat.reduceLeDiff, mq]) ?_
      refine s_guard (g := .sc (.bool true)) (by simp only [go_sem, Nat.reduceEqDiff, Nat.reduceAdd, Nat.reduceLeDiff]) ?_
      refine g_goT (v := .sc (.int .i64 (nf.t.length : Int))) (σ' := τ2) (by simp only [go_sem, Nat.reduceEqDiff, Nat.reduceAdd, Nat.reduceLeDiff, List.size_toArray]) ?_
      refine s_guard (g := .sc (.bool true)) (by simp only [go_sem, Nat.reduceEqDiff, Nat.reduceAdd, Nat.reduceLeDiff]) ?_
      refine g_goT (v := .sc (.int .i64 ((nf.s.length + nf.t.length : Nat) : Int))) (σ' := τ2) (by simp only [go_sem, Nat.reduceEqDiff, Nat.reduceAdd, Nat.reduceLeDiff, w1]) ?_
      refine s_guard (g := .sc (.bool true)) (by simp only [go_sem, Nat.reduceEqDiff, Nat.reduceAdd, Nat.reduceLeDiff]) ?_
      refine g_goT (v := .sc (.bool B)) (σ' := τ2) (by simp only [go_sem, Nat.reduceEqDiff, Nat.reduceAdd, Nat.reduceLeDiff, e1]) ?_
      refine s_plain (v := .sc (.bool B)) (σ' := τ2) (by simp only [go_sem, Nat.reduceEqDiff, Nat.reduceAdd, Nat.reduceLeDiff]) ?_
      refine s_plain (v := q) (σ' := τ2) (by simp only [go_sem, Nat.reduceEqDiff, Nat.reduceAdd, Nat.reduceLeDiff]) ?_
      refine s_plain (v := .sc (.bool B)) (σ' := τ2) (by simp only [go_sem, Nat.reduceEqDiff, Nat.reduceAdd, Nat.reduceLeDiff]) ?_
      refine wo_nil (w_ret ?_)
      exact ⟨.inr rfl, .tu [q, .sc (.bool B)], by simp only [go_sem, Nat.reduceEqDiff, Nat.reduceAdd, Nat.reduceLeDiff, retOf, resOf], ⟨⟨q, rfl, hq⟩, kq⟩⟩
    | false =>
      refine w_seq (w_rg ?_)
      refine s_plain (v := q) (σ' := τ2) (by simp only [go_sem, Nat.reduceEqDiff, Nat.reduceAdd, Nat.reduceLeDiff, g0]) ?_
      refine s_plain (v := q) (σ' := τ2) (by simp only [go_sem, Nat.reduceEqDiff, Nat.reduceAdd, Nat.reduceLeDiff, g0]) ?_
      refine s_plain (v := .sc (.int .i64 (df.length : Int))) (σ' := τ2) (by simp only [go_sem, Nat.reduceEqDiff, Nat.reduceAdd, Nat.reduceLeDiff, hlp, hdl]; first | done | rfl) ?_
      refine s_plain (v := .sc (.bool false)) (σ' := τ2) (by simp only [go_sem, Nat.reduceEqDiff, Nat.reduceAdd, Nat.reduceLeDiff, e2]) ?_
      refine s_plain (v := .sc (.bool false)) (σ' := τ2) (by simp only [go_sem, Nat.reduceEqDiff, Nat.reduceAdd, Nat.reduceLeDiff]) ?_
      iterate 8 (refine s_guard (g := .sc (.bool false)) (by simp only [go_sem, Nat.reduceEqDiff, Nat.reduceAdd, Nat.reduceLeDiff]) ?_; refine g_skT ?_)
      refine s_plain (v := .sc (.bool false)) (σ' := τ2) (by simp only [go_sem, Nat.reduceEqDiff, Nat.reduceAdd, Nat.reduceLeDiff]) ?_
      refine s_plain (v := q) (σ' := τ2) (by simp only [go_sem, Nat.reduceEqDiff, Nat.reduceAdd, Nat.reduceLeDiff]) ?_
      refine s_plain (v := .sc (.bool false)) (σ' := τ2) (by simp only [go_sem, Nat.reduceEqDiff, Nat.reduceAdd, Nat.reduceLeDiff]) ?_
      refine wo_nil (w_ret ?_)
      exact ⟨.inr rfl, .tu [q, .sc (.bool false)], by simp only [go_sem, Nat.reduceEqDiff, Nat.reduceAdd, Nat.reduceLeDiff, retOf, resOf], ⟨⟨q, rfl, hq⟩, kq⟩⟩
theorem a267_3 (J : Has lja env) (D : Has ljd env) (O : Has ljb env) (G : Has ljf env) (G2 : Has ljg env) {l : List Fl} {o : Op9} (hw : RowW σ 3 p (fls l)) (hs : Srt l) (hl : l.length ≤ 900) (hsm : ∀ f ∈ l, f.Sm) (ho : o.Sm) (hF : Fresh σ)
    (hh : hasF l o.n = true) (hk3 : o.k = 3) :
    ∃ q σ', EV env 267 [p, .sc (.int .i64 (posF l o.n : Int)), .sc (.bool (hasF l o.n)), opV o] σ = some (.tu [q, .sc (.bool (roomF l o))], σ') ∧ RowW σ' 3 q (fls (doneF l o)) ∧ Kp (2000000 ≤ ·) σ σ' := by
  have hln := fls_len l
  have hle := posF_le l o.n
  obtain ⟨ok1, ok2⟩ := hw.ok
  have htn := theF_n l o.n
  have hts : (theF l o.n).s.length ≤ 4000000000 ∧ (theF l o.n).t.length ≤ 4000000000 := by
    unfold theF
    cases h : getF l o.n with
    | none => simp
    | some f => exact ⟨(hsm f ((getF_some hs).1 h).1).s, (hsm f ((getF_some hs).1 h).1).t⟩
  suffices h : ∃ r τ, EV env 267 [p, .sc (.int .i64 (posF l o.n : Int)), .sc (.bool (hasF l o.n)), opV o] σ = some (r, τ) ∧ DoneP σ (doneF l o) (roomF l o) r τ by
    obtain ⟨r, τ, h1, ⟨⟨q, rfl, h2⟩, h3⟩⟩ := h
    exact ⟨q, τ, h1, h2, h3⟩
  refine EV_wp' (σ := σ) (R := DoneP σ (doneF l o) (roomF l o)) (G2 (267, d267) (by simp [ljg])) rfl ?_
  unfold opV
  (repeat' first
    | refine w_seq ?_ | refine w_rg ?_ | refine wo_nil ?_ | refine g_skU ?_ | refine g_skT ?_ | refine g_skF ?_
    | ((first | apply s_plain | apply s_void | apply s_guard | apply g_goT | apply g_goF); · simp only [go_sem, Nat.reduceEqDiff, Nat.reduceAdd, Nat.reduceLeDiff, ok1, ok2, List.set_cons_succ]; (first | done | rfl))
    | ((first | apply g_T | apply g_F | apply g_gT | apply g_gF); · intro q1_; (first | intro q2_ | have q2_ := q1_); simp only [go_sem, Nat.reduceEqDiff, Nat.reduceAdd, Nat.reduceLeDiff, ok1, ok2, List.set_cons_succ, q1_, q2_]; (first | done | rfl))
    | fail
    )
  -- the file that is there, or none yet
  refine Wp.mono (Q := fun x fr τ => x = .normal ∧ τ.m 2000007 (σ.c 2000007) = some ⟨3, [.agg [.sc (.int .i64 o.k), txt o.n, txt o.d]], true, true⟩ ∧ τ.m 2000010 (σ.c 2000010) = some ⟨3, [fl (theF l o.n)], true, true⟩ ∧
    RowW τ 3 p (fls l) ∧ Kp (2000000 ≤ ·) σ τ ∧ fr 0 = p ∧ fr 1 = .sc (.int .i64 (posF l o.n : Int)) ∧ fr 7 = .bx 2000007 (σ.c 2000007) 3 0 0 ∧ fr 10 = .bx 2000010 (σ.c 2000010) 3 0 0) ?_ ?_
  · cases hh : hasF l o.n with
    | true =>
      obtain ⟨f0, q1, q2, q3⟩ := pos_at hs hh
      have hlt := (List.getElem?_eq_some_iff.1 q1).1
      have htf : theF l o.n = f0 := by unfold theF; rw [q3]; rfl
      rcases hw with ⟨rfl, hx⟩ | ⟨o1, g1, rfl, h3, h4⟩
      · have h0 : l.length = 0 := by rw [← hln, hx]; rfl
        omega
      · have e1 : (0 : Int) ≤ ((posF l o.n : Nat) : Int) ∧ ((posF l o.n : Nat) : Int) < ((fls l).length : Int) := by rw [hln]; omega
        have hne7 : ¬ (o1 = 2000007) := by omega
        have hne10 : ¬ (o1 = 2000010) := by omega
        have hy := fls_at q1
        unfold fl at hy
        rw [htf]
        (repeat' first
    | refine w_seq ?_ | refine w_rg ?_ | refine wo_nil ?_ | refine g_skU ?_ | refine g_skT ?_ | refine g_skF ?_
    | ((first | apply s_plain | apply s_void | apply s_guard | apply g_goT | apply g_goF); · simp only [go_sem, Nat.reduceEqDiff, Nat.reduceAdd, Nat.reduceLeDiff, e1, Int.toNat_natCast, hne7, hne10, false_and, h3, hy, List.set_cons_succ]; (first | done | rfl))
    | ((first | apply g_T | apply g_F | apply g_gT | apply g_gF); · intro q1_; (first | intro q2_ | have q2_ := q1_); simp only [go_sem, Nat.reduceEqDiff, Nat.reduceAdd, Nat.reduceLeDiff, e1, Int.toNat_natCast, hne7, hne10, false_and, h3, hy, List.set_cons_succ, q1_, q2_]; (first | done | rfl))
    | (apply w_condX; · simp only [go_sem, Nat.reduceEqDiff, Nat.reduceAdd, Nat.reduceLeDiff, e1, Int.toNat_natCast, hne7, hne10, false_and, h3, hy, List.set_cons_succ]; (first | done | rfl)); (first | refine wcd_T ?_ | refine wcd_F ?_)
    | refine w_skip ?_ | refine w_exit ?_ | refine w_ret ?_
    | fail
    )
        refine ⟨rfl, by simp only [go_sem, Nat.reduceEqDiff, Nat.reduceAdd, Nat.reduceLeDiff, List.set_cons_succ], by simp only [go_sem, Nat.reduceEqDiff, Nat.reduceAdd, Nat.reduceLeDiff, List.set_cons_succ, fl], ?_, ?_, by simp only [go_sem, Nat.reduceEqDiff, Nat.reduceAdd, Nat.reduceLeDiff], by simp only [go_sem, Nat.reduceEqDiff, Nat.reduceAdd, Nat.reduceLeDiff], by simp only [go_sem, Nat.reduceEqDiff, Nat.reduceAdd, Nat.reduceLeDiff], by simp only [go_sem, Nat.reduceEqDiff, Nat.reduceAdd, Nat.reduceLeDiff]⟩
        · exact ((((RowW.new (.inr ⟨o1, g1, rfl, h3, h4⟩) hF _ _).new (hF.new _ _) _ _).put (by decide) _).put (by decide) _)
        · exact ((((Kp.refl hF).new _ _).new _ _).put (x := ⟨3, [.agg [.sc (.string ⟨#[]⟩), .sc (.string ⟨#[]⟩), .sc (.string ⟨#[]⟩)]], true, true⟩) (by simp only [go_sem, Nat.reduceEqDiff, Nat.reduceAdd, Nat.reduceLeDiff]) (.inr (Nat.le_refl _)) _).put (x := ⟨3, [.agg [txt o.n, .sc (.string ⟨#[]⟩), .sc (.string ⟨#[]⟩)]], true, true⟩) (by simp only [go_sem, Nat.reduceEqDiff, Nat.reduceAdd, Nat.reduceLeDiff]) (.inr (Nat.le_refl _)) _
    | false =>
      have htf : theF l o.n = ⟨o.n, [], []⟩ := by
        unfold hasF at hh
        unfold theF
        rw [show getF l o.n = none by simpa using hh]; rfl
      rw [htf]
      (repeat' first
    | refine w_seq ?_ | refine w_rg ?_ | refine wo_nil ?_ | refine g_skU ?_ | refine g_skT ?_ | refine g_skF ?_
    | ((first | apply s_plain | apply s_void | apply s_guard | apply g_goT | apply g_goF); · simp only [go_sem, Nat.reduceEqDiff, Nat.reduceAdd, Nat.reduceLeDiff, List.set_cons_succ]; (first | done | rfl))
    | ((first | apply g_T | apply g_F | apply g_gT | apply g_gF); · intro q1_; (first | intro q2_ | have q2_ := q1_); simp only [go_sem, Nat.reduceEqDiff, Nat.reduceAdd, Nat.reduceLeDiff, List.set_cons_succ, q1_, q2_]; (first | done | rfl))
    | (apply w_condX; · simp only [go_sem, Nat.reduceEqDiff, Nat.reduceAdd, Nat.reduceLeDiff, List.set_cons_succ]; (first | done | rfl)); (first | refine wcd_T ?_ | refine wcd_F ?_)
    | refine w_skip ?_ | refine w_exit ?_ | refine w_ret ?_
    | fail
    )
      refine ⟨rfl, by simp only [go_sem, Nat.reduceEqDiff, Nat.reduceAdd, Nat.reduceLeDiff, List.set_cons_succ], by simp only [go_sem, Nat.reduceEqDiff, Nat.reduceAdd, Nat.reduceLeDiff, List.set_cons_succ, fl]; first | done | rfl, ?_, ?_, by simp only [go_sem, Nat.reduceEqDiff, Nat.reduceAdd, Nat.reduceLeDiff], by simp only [go_sem, Nat.reduceEqDiff, Nat.reduceAdd, Nat.reduceLeDiff], by simp only [go_sem, Nat.reduceEqDiff, Nat.reduceAdd, Nat.reduceLeDiff], by simp only [go_sem, Nat.reduceEqDiff, Nat.reduceAdd, Nat.reduceLeDiff]⟩
      · exact ((hw.new hF _ _).new (hF.new _ _) _ _).put (by decide) _
      · exact (((Kp.refl hF).new _ _).new _ _).put (x := ⟨3, [.agg [.sc (.string ⟨#[]⟩), .sc (.string ⟨#[]⟩), .sc (.string ⟨#[]⟩)]], true, true⟩) (by simp only [go_sem, Nat.reduceEqDiff, Nat.reduceAdd, Nat.reduceLeDiff]) (.inr (Nat.le_refl _)) _
  rintro x fr1 τ ⟨rfl, m7, m10, hw1, kp, f0, f1, f7, f10⟩
  try show Wp _ _ _ _ _
  (repeat' first
    | refine w_seq ?_ | refine w_rg ?_ | refine wo_nil ?_ | refine g_skU ?_ | refine g_skT ?_ | refine g_skF ?_
    | ((first | apply s_plain | apply s_void | apply s_guard | apply g_goT | apply g_goF); · simp only [go_sem, Nat.reduceEqDiff, Nat.reduceAdd, Nat.reduceLeDiff, f7, m7]; (first | done | rfl))
    | ((first | apply g_T | apply g_F | apply g_gT | apply g_gF); · intro q1_; (first | intro q2_ | have q2_ := q1_); simp only [go_sem, Nat.reduceEqDiff, Nat.reduceAdd, Nat.reduceLeDiff, f7, m7, q1_, q2_]; (first | done | rfl))
    | fail
    )
  have hlt10 : σ.c 2000010 < τ.c 2000010 := kp.f _ _ (by rw [m10]; rfl)
  refine Wp.mono (Q := SwP σ (doneF l o) (newF l o)) ?_ ?_
  · refine w_block ?_
    (repeat' first
    | refine w_seq ?_ | refine w_rg ?_ | refine wo_nil ?_ | refine g_skU ?_ | refine g_skT ?_ | refine g_skF ?_
    | ((first | apply s_plain | apply s_void | apply s_guard | apply g_goT | apply g_goF); · simp only [go_sem, Nat.reduceEqDiff, Nat.reduceAdd, Nat.reduceLeDiff]; (first | done | rfl))
    | ((first | apply g_T | apply g_F | apply g_gT | apply g_gF); · intro q1_; (first | intro q2_ | have q2_ := q1_); simp only [go_sem, Nat.reduceEqDiff, Nat.reduceAdd, Nat.reduceLeDiff, q1_, q2_]; (first | done | rfl))
    | fail
    )
    refine w_block ?_
    (repeat' first
    | refine w_seq ?_ | refine w_rg ?_ | refine wo_nil ?_ | refine g_skU ?_ | refine g_skT ?_ | refine g_skF ?_
    | ((first | apply s_plain | apply s_void | apply s_guard | apply g_goT | apply g_goF); · simp only [go_sem, Nat.reduceEqDiff, Nat.reduceAdd, Nat.reduceLeDiff]; (first | done | rfl))
    | ((first | apply g_T | apply g_F | apply g_gT | apply g_gF); · intro q1_; (first | intro q2_ | have q2_ := q1_); simp only [go_sem, Nat.reduceEqDiff, Nat.reduceAdd, Nat.reduceLeDiff, q1_, q2_]; (first | done | rfl))
    | fail
    )
    refine w_block ?_
    (repeat' first
    | refine w_seq ?_ | refine w_rg ?_ | refine wo_nil ?_ | refine g_skU ?_ | refine g_skT ?_ | refine g_skF ?_
    | ((first | apply s_plain | apply s_void | apply s_guard | apply g_goT | apply g_goF); · simp only [go_sem, Nat.reduceEqDiff, Nat.reduceAdd, Nat.reduceLeDiff]; (first | done | rfl))
    | ((first | apply g_T | apply g_F | apply g_gT | apply g_gF); · intro q1_; (first | intro q2_ | have q2_ := q1_); simp only [go_sem, Nat.reduceEqDiff, Nat.reduceAdd, Nat.reduceLeDiff, q1_, q2_]; (first | done | rfl))
    | fail
    )
    refine w_block ?_
    (repeat' first
    | refine w_seq ?_ | refine w_rg ?_ | refine wo_nil ?_ | refine g_skU ?_ | refine g_skT ?_ | refine g_skF ?_
    | ((first | apply s_plain | apply s_void | apply s_guard | apply g_goT | apply g_goF); · simp only [go_sem, Nat.reduceEqDiff, Nat.reduceAdd, Nat.reduceLeDiff]; (first | done | rfl))
    | ((first | apply g_T | apply g_F | apply g_gT | apply g_gF); · intro q1_; (first | intro q2_ | have q2_ := q1_); simp only [go_sem, Nat.reduceEqDiff, Nat.reduceAdd, Nat.reduceLeDiff, q1_, q2_]; (first | done | rfl))
    | fail
    )
    refine w_block ?_
    (repeat' first
    | refine w_seq ?_ | refine w_rg ?_ | refine wo_nil ?_ | refine g_skU ?_ | refine g_skT ?_ | refine g_skF ?_
    | ((first | apply s_plain | apply s_void | apply s_guard | apply g_goT | apply g_goF); · simp only [go_sem, Nat.reduceEqDiff, Nat.reduceAdd, Nat.reduceLeDiff]; (first | done | rfl))
    | ((first | apply g_T | apply g_F | apply g_gT | apply g_gF); · intro q1_; (first | intro q2_ | have q2_ := q1_); simp only [go_sem, Nat.reduceEqDiff, Nat.reduceAdd, Nat.reduceLeDiff, q1_, q2_]; (first | done | rfl))
    | fail
    )
    rw [hk3] at m7 ⊢
    obtain ⟨f0', q1, q2, q3⟩ := pos_at hs hh
    have hlt := (List.getElem?_eq_some_iff.1 q1).1
    have hnf : newF l o = ⟨o.d, (theF l o.n).s, (theF l o.n).t⟩ := by unfold newF; rw [if_neg (by omega), if_neg (by omega), if_pos hk3]
    have hdf : doneF l o = putF (delF' l o.n) (newF l o) := by unfold doneF; rw [if_neg (by omega), if_pos hk3]
    rw [hdf, hnf]
    unfold fl at m10
    have d1 : ((3 : Int) == 1) = false := rfl
    have d2 : ((3 : Int) == 2) = false := rfl
    have w1 : IntKind.i64.wrap ((posF l o.n : Int) + 1) = ((posF l o.n + 1 : Nat) : Int) := by rw [IntKind.wrap_i64]; omega
    (repeat' first
    | refine w_seq ?_ | refine w_rg ?_ | refine wo_nil ?_ | refine g_skU ?_ | refine g_skT ?_ | refine g_skF ?_
    | ((first | apply s_plain | apply s_void | apply s_guard | apply g_goT | apply g_goF); · simp only [go_sem, Nat.reduceEqDiff, Nat.reduceAdd, Nat.reduceLeDiff, beq_self_eq_true, d1, d2]; (first | done | rfl))
    | ((first | apply g_T | apply g_F | apply g_gT | apply g_gF); · intro q1_; (first | intro q2_ | have q2_ := q1_); simp only [go_sem, Nat.reduceEqDiff, Nat.reduceAdd, Nat.reduceLeDiff, beq_self_eq_true, d1, d2, q1_, q2_]; (first | done | rfl))
    | (apply w_condX; · simp only [go_sem, Nat.reduceEqDiff, Nat.reduceAdd, Nat.reduceLeDiff, beq_self_eq_true, d1, d2]; (first | done | rfl)); (first | refine wcd_T ?_ | refine wcd_F ?_)
    | refine w_skip ?_ | refine w_exit ?_ | refine w_ret ?_
    | fail
    )
    try simp only [if_true, if_false, Nat.reduceEqDiff, reduceCtorEq]
    try show Wp _ _ _ _ _
    (repeat' first
    | refine w_seq ?_ | refine w_rg ?_ | refine wo_nil ?_ | refine g_skU ?_ | refine g_skT ?_ | refine g_skF ?_
    | ((first | apply s_plain | apply s_void | apply s_guard | apply g_goT | apply g_goF); · simp only [go_sem, Nat.reduceEqDiff, Nat.reduceAdd, Nat.reduceLeDiff, f0, f7, f10, m7, m10, List.size_toArray, List.set_cons_succ]; (first | done | rfl))
    | ((first | apply g_T | apply g_F | apply g_gT | apply g_gF); · intro q1_; (first | intro q2_ | have q2_ := q1_); simp only [go_sem, Nat.reduceEqDiff, Nat.reduceAdd, Nat.reduceLeDiff, f0, f7, f10, m7, m10, List.size_toArray, List.set_cons_succ, q1_, q2_]; (first | done | rfl))
    | (apply w_condX; · simp only [go_sem, Nat.reduceEqDiff, Nat.reduceAdd, Nat.reduceLeDiff, f0, f7, f10, m7, m10, List.size_toArray, List.set_cons_succ]; (first | done | rfl)); (first | refine wcd_T ?_ | refine wcd_F ?_)
    | refine w_skip ?_ | refine w_exit ?_ | refine w_ret ?_
    | fail
    )
    try simp only [if_true, if_false, Nat.reduceEqDiff, reduceCtorEq]
    try show Wp _ _ _ _ _
    (repeat' first
    | refine w_seq ?_ | refine w_rg ?_ | refine wo_nil ?_ | refine g_skU ?_ | refine g_skT ?_ | refine g_skF ?_
    | ((first | apply s_plain | apply s_void | apply s_guard | apply g_goT | apply g_goF); · simp only [go_sem, Nat.reduceEqDiff, Nat.reduceAdd, Nat.reduceLeDiff, f0, f1, w1]; (first | done | rfl))
    | ((first | apply g_T | apply g_F | apply g_gT | apply g_gF); · intro q1_; (first | intro q2_ | have q2_ := q1_); simp only [go_sem, Nat.reduceEqDiff, Nat.reduceAdd, Nat.reduceLeDiff, f0, f1, w1, q1_, q2_]; (first | done | rfl))
    | fail
    )
    have kq := kp.put m10 (.inr (Nat.le_refl _)) (some ⟨3, [.agg [txt o.d, txt (theF l o.n).s, txt (theF l o.n).t]], true, true⟩)
    obtain ⟨q, τ3, h1, h2, h3⟩ := e_del (J (278, .prim (delF 3)) (by simp [lja])) (hw1.put (o := 2000010) (g := σ.c 2000010) (by decide) (some ⟨3, [.agg [txt o.d, txt (theF l o.n).s, txt (theF l o.n).t]], true, true⟩)) (i := posF l o.n) (by rw [hln]; exact hlt) kq.f
    refine s_plain (v := q) (σ' := τ3) (by simp only [go_sem, Nat.reduceEqDiff, Nat.reduceAdd, Nat.reduceLeDiff, f0, f1, w1]; exact h1) ?_
    have k3 := kq.trans h3
    have hlt7 : σ.c 2000007 < τ.c 2000007 := kp.f _ _ (by rw [m7]; rfl)
    have m3 : τ3.m 2000010 (σ.c 2000010) = some ⟨3, [.agg [txt o.d, txt (theF l o.n).s, txt (theF l o.n).t]], true, true⟩ := by
      rw [h3.m 2000010 (σ.c 2000010) (by decide) hlt10]; simp only [go_sem, Nat.reduceEqDiff, Nat.reduceAdd, Nat.reduceLeDiff]
    have m37 : τ3.m 2000007 (σ.c 2000007) = some ⟨3, [.agg [.sc (.int .i64 3), txt o.n, txt o.d]], true, true⟩ := by
      rw [h3.m 2000007 (σ.c 2000007) (by decide) hlt7]; simp only [go_sem, Nat.reduceEqDiff, Nat.reduceAdd, Nat.reduceLeDiff, m7]
    have hdl : (fls l).take (posF l o.n) ++ (fls l).drop (posF l o.n + 1) = fls (delF' l o.n) := by
      unfold delF'
      simp only [fls, List.map_append, List.map_take, List.map_drop]
    rw [hdl] at h2
    have hlt103 : σ.c 2000010 < τ3.c 2000010 := k3.f _ _ (by rw [m3]; rfl)
    cases hnq : (!(o.d == o.n)) with
    | true =>
      (repeat' first
    | refine w_seq ?_ | refine w_rg ?_ | refine wo_nil ?_ | refine g_skU ?_ | refine g_skT ?_ | refine g_skF ?_
    | ((first | apply s_plain | apply s_void | apply s_guard | apply g_goT | apply g_goF); · simp only [go_sem, Nat.reduceEqDiff, Nat.reduceAdd, Nat.reduceLeDiff, f7, f10, m3, m37, hnq]; (first | done | rfl))
    | ((first | apply g_T | apply g_F | apply g_gT | apply g_gF); · intro q1_; (first | intro q2_ | have q2_ := q1_); simp only [go_sem, Nat.reduceEqDiff, Nat.reduceAdd, Nat.reduceLeDiff, f7, f10, m3, m37, hnq, q1_, q2_]; (first | done | rfl))
    | (apply w_condX; · simp only [go_sem, Nat.reduceEqDiff, Nat.reduceAdd, Nat.reduceLeDiff, f7, f10, m3, m37, hnq]; (first | done | rfl)); (first | refine wcd_T ?_ | refine wcd_F ?_)
    | refine w_skip ?_ | refine w_exit ?_ | refine w_ret ?_
    | fail
    )
      obtain ⟨q2, τ4, h4, h5, h6⟩ := a277 J D O G (f := ⟨o.d, (theF l o.n).s, (theF l o.n).t⟩) h2 (delF_srt hs o.n) (by have := @delF_len l o.n; omega) k3.f
      refine s_plain (v := q2) (σ' := τ4) (by simp only [go_sem, Nat.reduceEqDiff, Nat.reduceAdd, Nat.reduceLeDiff]; exact h4) ?_
      have m4 : τ4.m 2000010 (σ.c 2000010) = some ⟨3, [.agg [txt o.d, txt (theF l o.n).s, txt (theF l o.n).t]], true, true⟩ := by
        rw [h6.m 2000010 (σ.c 2000010) (by decide) hlt103]; exact m3
      (repeat' first
    | refine w_seq ?_ | refine w_rg ?_ | refine wo_nil ?_ | refine g_skU ?_ | refine g_skT ?_ | refine g_skF ?_
    | ((first | apply s_plain | apply s_void | apply s_guard | apply g_goT | apply g_goF); · simp only [go_sem, Nat.reduceEqDiff, Nat.reduceAdd, Nat.reduceLeDiff]; (first | done | rfl))
    | ((first | apply g_T | apply g_F | apply g_gT | apply g_gF); · intro q1_; (first | intro q2_ | have q2_ := q1_); simp only [go_sem, Nat.reduceEqDiff, Nat.reduceAdd, Nat.reduceLeDiff, q1_, q2_]; (first | done | rfl))
    | (apply w_condX; · simp only [go_sem, Nat.reduceEqDiff, Nat.reduceAdd, Nat.reduceLeDiff]; (first | done | rfl)); (first | refine wcd_T ?_ | refine wcd_F ?_)
    | refine w_skip ?_ | refine w_exit ?_ | refine w_ret ?_
    | fail
    )
      try simp only [if_true, if_false, Nat.reduceEqDiff, reduceCtorEq]
      exact ⟨rfl, ⟨q2, by simp only [go_sem, Nat.reduceEqDiff, Nat.reduceAdd, Nat.reduceLeDiff], h5⟩, k3.trans h6, m4, by simp only [go_sem, Nat.reduceEqDiff, Nat.reduceAdd, Nat.reduceLeDiff, f10]⟩
    | false =>
      (repeat' first
    | refine w_seq ?_ | refine w_rg ?_ | refine wo_nil ?_ | refine g_skU ?_ | refine g_skT ?_ | refine g_skF ?_
    | ((first | apply s_plain | apply s_void | apply s_guard | apply g_goT | apply g_goF); · simp only [go_sem, Nat.reduceEqDiff, Nat.reduceAdd, Nat.reduceLeDiff, f7, f10, m3, m37, hnq, beq_self_eq_true]; (first | done | rfl))
    | ((first | apply g_T | apply g_F | apply g_gT | apply g_gF); · intro q1_; (first | intro q2_ | have q2_ := q1_); simp only [go_sem, Nat.reduceEqDiff, Nat.reduceAdd, Nat.reduceLeDiff, f7, f10, m3, m37, hnq, beq_self_eq_true, q1_, q2_]; (first | done | rfl))
    | (apply w_condX; · simp only [go_sem, Nat.reduceEqDiff, Nat.reduceAdd, Nat.reduceLeDiff, f7, f10, m3, m37, hnq, beq_self_eq_true]; (first | done | rfl)); (first | refine wcd_T ?_ | refine wcd_F ?_)
    | refine w_skip ?_ | refine w_exit ?_ | refine w_ret ?_
    | fail
    )
      obtain ⟨q2, τ4, h4, h5, h6⟩ := a277 J D O G (f := ⟨o.d, (theF l o.n).s, (theF l o.n).t⟩) h2 (delF_srt hs o.n) (by have := @delF_len l o.n; omega) k3.f
      refine s_plain (v := q2) (σ' := τ4) (by simp only [go_sem, Nat.reduceEqDiff, Nat.reduceAdd, Nat.reduceLeDiff]; exact h4) ?_
      have m4 : τ4.m 2000010 (σ.c 2000010) = some ⟨3, [.agg [txt o.d, txt (theF l o.n).s, txt (theF l o.n).t]], true, true⟩ := by
        rw [h6.m 2000010 (σ.c 2000010) (by decide) hlt103]; exact m3
      (repeat' first
    | refine w_seq ?_ | refine w_rg ?_ | refine wo_nil ?_ | refine g_skU ?_ | refine g_skT ?_ | refine g_skF ?_
    | ((first | apply s_plain | apply s_void | apply s_guard | apply g_goT | apply g_goF); · simp only [go_sem, Nat.reduceEqDiff, Nat.reduceAdd, Nat.reduceLeDiff]; (first | done | rfl))
    | ((first | apply g_T | apply g_F | apply g_gT | apply g_gF); · intro q1_; (first | intro q2_ | have q2_ := q1_); simp only [go_sem, Nat.reduceEqDiff, Nat.reduceAdd, Nat.reduceLeDiff, q1_, q2_]; (first | done | rfl))
    | (apply w_condX; · simp only [go_sem, Nat.reduceEqDiff, Nat.reduceAdd, Nat.reduceLeDiff]; (first | done | rfl)); (first | refine wcd_T ?_ | refine wcd_F ?_)
    | refine w_skip ?_ | refine w_exit ?_ | refine w_ret ?_
    | fail
    )
      try simp only [if_true, if_false, Nat.reduceEqDiff, reduceCtorEq]
      exact ⟨rfl, ⟨q2, by simp only [go_sem, Nat.reduceEqDiff, Nat.reduceAdd, Nat.reduceLeDiff], h5⟩, k3.trans h6, m4, by simp only [go_sem, Nat.reduceEqDiff, Nat.reduceAdd, Nat.reduceLeDiff, f10]⟩
  · rintro x fr2 τ2 ⟨rfl, ⟨q, g0, hq⟩, kq, mq, g10⟩
    try show Wp _ _ _ _ _
    have hlp := hq.lenP
    have hdl := fls_len (doneF l o)
    obtain ⟨ok3, ok4⟩ := hq.ok
    unfold fl at mq
    have hnf1 := newF_le hts.1 hts.2 ho.d
    have hroom : roomF l o = (decide ((doneF l o).length ≤ 16) && decide ((newF l o).s.length + (newF l o).t.length ≤ 16384)) := rfl
    rw [hroom]
    clear hroom hw1 m7 m10 htn hts
    generalize newF l o = nf at mq hnf1 ⊢
    generalize hdd : doneF l o = df at hq hlp hdl ⊢
    have w1 : IntKind.i64.wrap ((nf.s.length : Int) + (nf.t.length : Int)) = ((nf.s.length + nf.t.length : Nat) : Int) := by rw [IntKind.wrap_i64]; omega
    have e1 := le16k (nf.s.length + nf.t.length)
    have e2 := le16 df.length (z := 16) rfl
    generalize decide (nf.s.length + nf.t.length ≤ 16384) = B at e1 ⊢
    generalize decide (df.length ≤ 16) = C at e2 ⊢
    cases C with
    | true =>
      refine w_seq (w_rg ?_)
      refine s_plain (v := q) (σ' := τ2) (by simp only [go_sem, Nat.reduceEqDiff, Nat.reduceAdd, Nat.reduceLeDiff, g0]) ?_
      refine s_plain (v := q) (σ' := τ2) (by simp only [go_sem, Nat.reduceEqDiff, Nat.reduceAdd, Nat.reduceLeDiff, g0]) ?_
      refine s_plain (v := .sc (.int .i64 (df.length : Int))) (σ' := τ2) (by simp only [go_sem, Nat.reduceEqDiff, Nat.reduceAdd, Nat.reduceLeDiff, hlp, hdl]; first | done | rfl) ?_
      refine s_plain (v := .sc (.bool true)) (σ' := τ2) (by simp only [go_sem, Nat.reduceEqDiff, Nat.reduceAdd, Nat.reduceLeDiff, e2]) ?_
      refine s_plain (v := .sc (.bool true)) (σ' := τ2) (by simp only [go_sem, Nat.reduceEqDiff, Nat.reduceAdd, Nat.reduceLeDiff]) ?_
      refine s_guard (g := .sc (.bool true)) (by simp only [go_sem, Nat.reduceEqDiff, Nat.reduceAdd, Nat.reduceLeDiff]) ?_
      refine g_goT (v := .bx 2000010 (σ.c 2000010) 3 0 1) (σ' := τ2) (by simp only [go_sem, Nat.reduceEqDiff, Nat.reduceAdd, Nat.reduceLeDiff, g10]) ?_
      refine s_guard (g := .sc (.bool true)) (by simp only [go_sem, Nat.reduceEqDiff, Nat.reduceAdd, Nat.reduceLeDiff]) ?_
      refine g_goT (v := txt nf.s) (σ' := τ2) (by simp only [go_sem, Nat.reduceEqDiff, Nat.reduceAdd, Nat.reduceLeDiff, mq]) ?_
      refine s_guard (g := .sc (.bool true)) (by simp only [go_sem, Nat.reduceEqDiff, Nat.reduceAdd, Nat.reduceLeDiff]) ?_
      refine g_goT (v := .sc (.int .i64 (nf.s.length : Int))) (σ' := τ2) (by simp only [go_sem, Nat.reduceEqDiff, Nat.reduceAdd, Nat.reduceLeDiff, List.size_toArray]) ?_
      refine s_guard (g := .sc (.bool true)) (by simp only [go_sem, Nat.reduceEqDiff, Nat.reduceAdd, Nat.reduceLeDiff]) ?_
      refine g_goT (v := .bx 2000010 (σ.c 2000010) 3 0 2) (σ' := τ2) (by simp only [go_sem, Nat.reduceEqDiff, Nat.reduceAdd, Nat.reduceLeDiff, g10]) ?_
      refine s_guard (g := .sc (.bool true)) (by simp only [go_sem, Nat.reduceEqDiff, Nat.reduceAdd, Nat.reduceLeDiff]) ?_
      refine g_goT (v := txt nf.t) (σ' := τ2) (by simp only [go_sem, Nat.reduceEqDiff, Nat.reduceAdd, Nat.reduceLeDiff, mq]) ?_
      refine s_guard (g := .sc (.bool true)) (by simp only [go_sem, Nat.reduceEqDiff, Nat.reduceAdd, Nat.reduceLeDiff]) ?_
      refine g_goT (v := .sc (.int .i64 (nf.t.length : Int))) (σ' := τ2) (by simp only [go_sem, Nat.reduceEqDiff, Nat.reduceAdd, Nat.reduceLeDiff, List.size_toArray]) ?_
      refine s_guard (g := .sc (.bool true)) (by simp only [go_sem, Nat.reduceEqDiff, Nat.reduceAdd, Nat.reduceLeDiff]) ?_
      refine g_goT (v := .sc (.int .i64 ((nf.s.length + nf.t.length : Nat) : Int))) (σ' := τ2) (by simp only [go_sem, Nat.reduceEqDiff, Nat.reduceAdd, Nat.reduceLeDiff, w1]) ?_
      refine s_guard (g := .sc (.bool true)) (by simp only [go_sem, Nat.reduceEqDiff, Nat.reduceAdd, Nat.reduceLeDiff]) ?_
      refine g_goT (v := .sc (.bool B)) (σ' := τ2) (by simp only [go_sem, Nat.reduceEqDiff, Nat.reduceAdd, Nat.reduceLeDiff, e1]) ?_
      refine s_plain (v := .sc (.bool B)) (σ' := τ2) (by simp only [go_sem, Nat.reduceEqDiff, Nat.reduceAdd, Nat.reduceLeDiff]) ?_
      refine s_plain (v := q) (σ' := τ2) (by simp only [go_sem, Nat.reduceEqDiff, Nat.reduceAdd, Nat.reduceLeDiff]) ?_
      refine s_plain (v := .sc (.bool B)) (σ' := τ2) (by simp only [go_sem, Nat.reduceEqDiff, Nat.reduceAdd, Nat.reduceLeDiff]) ?_
      refine wo_nil (w_ret ?_)
      exact ⟨.inr rfl, .tu [q, .sc (.bool B)], by simp only [go_sem, Nat.reduceEqDiff, Nat.reduceAdd, Nat.reduceLeDiff, retOf, resOf], ⟨⟨q, rfl, hq⟩, kq⟩⟩
    | false =>
      refine w_seq (w_rg ?_)
      refine s_plain (v := q) (σ' := τ2) (by simp only [go_sem, Nat.reduceEqDiff, Nat.reduceAdd, Nat.reduceLeDiff, g0]) ?_
      refine s_plain (v := q) (σ' := τ2) (by simp only [go_sem, Nat.reduceEqDiff, Nat.reduceAdd, Nat.reduceLeDiff, g0]) ?_
      refine s_plain (v := .sc (.int .i64 (df.length : Int))) (σ' := τ2) (by simp only [go_sem, Nat.reduceEqDiff, Nat.reduceAdd, Nat.reduceLeDiff, hlp, hdl]; first | done | rfl) ?_
      refine s_plain (v := .sc (.bool false)) (σ' := τ2) (by simp only [go_sem, Nat.reduceEqDiff, Nat.reduceAdd, Nat.reduceLeDiff, e2]) ?_
      refine s_plain (v := .sc (.bool false)) (σ' := τ2) (by simp only [go_sem, Nat.reduceEqDiff, Nat.reduceAdd, Nat.reduceLeDiff]) ?_
      iterate 8 (refine s_guard (g := .sc (.bool false)) (by simp only [go_sem, Nat.reduceEqDiff, Nat.reduceAdd, Nat.reduceLeDiff]) ?_; refine g_skT ?_)
      refine s_plain (v := .sc (.bool false)) (σ' := τ2) (by simp only [go_sem, Nat.reduceEqDiff, Nat.reduceAdd, Nat.reduceLeDiff]) ?_
      refine s_plain (v := q) (σ' := τ2) (by simp only [go_sem, Nat.reduceEqDiff, Nat.reduceAdd, Nat.reduceLeDiff]) ?_
      refine s_plain (v := .sc (.bool false)) (σ' := τ2) (by simp only [go_sem, Nat.reduceEqDiff, Nat.reduceAdd, Nat.reduceLeDiff]) ?_
      refine wo_nil (w_ret ?_)
      exact ⟨.inr rfl, .tu [q, .sc (.bool false)], by simp only [go_sem, Nat.reduceEqDiff, Nat.reduceAdd, Nat.reduceLeDiff, retOf, resOf], ⟨⟨q, rfl, hq⟩, kq⟩⟩
theorem a267_4 (J : Has lja env) (D : Has ljd env) (O : Has ljb env) (G : Has ljf env) (G2 : Has ljg env) {l : List Fl} {o : Op9} (hw : RowW σ 3 p (fls l)) (hs : Srt l) (hl : l.length ≤ 900) (hsm : ∀ f ∈ l, f.Sm) (ho : o.Sm) (hF : Fresh σ)
    (hh : hasF l o.n = true) (hk4 : o.k = 4) :
    ∃ q σ', EV env 267 [p, .sc (.int .i64 (posF l o.n : Int)), .sc (.bool (hasF l o.n)), opV o] σ = some (.tu [q, .sc (.bool (roomF l o))], σ') ∧ RowW σ' 3 q (fls (doneF l o)) ∧ Kp (2000000 ≤ ·) σ σ' := by
  have hln := fls_len l
  have hle := posF_le l o.n
  obtain ⟨ok1, ok2⟩ := hw.ok
  have htn := theF_n l o.n
  have hts : (theF l o.n).s.length ≤ 4000000000 ∧ (theF l o.n).t.length ≤ 4000000000 := by
    unfold theF
    cases h : getF l o.n with
    | none => simp
    | some f => exact ⟨(hsm f ((getF_some hs).1 h).1).s, (hsm f ((getF_some hs).1 h).1).t⟩
  suffices h : ∃ r τ, EV env 267 [p, .sc (.int .i64 (posF l o.n : Int)), .sc (.bool (hasF l o.n)), opV o] σ = some (r, τ) ∧ DoneP σ (doneF l o) (roomF l o) r τ by
    obtain ⟨r, τ, h1, ⟨⟨q, rfl, h2⟩, h3⟩⟩ := h
    exact ⟨q, τ, h1, h2, h3⟩
  refine EV_wp' (σ := σ) (R := DoneP σ (doneF l o) (roomF l o)) (G2 (267, d267) (by simp [ljg])) rfl ?_
  unfold opV
  (repeat' first
    | refine w_seq ?_ | refine w_rg ?_ | refine wo_nil ?_ | refine g_skU ?_ | refine g_skT ?_ | refine g_skF ?_
    | ((first | apply s_plain | apply s_void | apply s_guard | apply g_goT | apply g_goF); · simp only [go_sem, Nat.reduceEqDiff, Nat.reduceAdd, Nat.reduceLeDiff, ok1, ok2, List.set_cons_succ]; (first | done | rfl))
    | ((first | apply g_T | apply g_F | apply g_gT | apply g_gF); · intro q1_; (first | intro q2_ | have q2_ := q1_); simp only [go_sem, Nat.reduceEqDiff, Nat.reduceAdd, Nat.reduceLeDiff, ok1, ok2, List.set_cons_succ, q1_, q2_]; (first | done | rfl))
    | fail
    )
  -- the file that is there, or none yet
  refine Wp.mono (Q := fun x fr τ => x = .normal ∧ τ.m 2000007 (σ.c 2000007) = some ⟨3, [.agg [.sc (.int .i64 o.k), txt o.n, txt o.d]], true, true⟩ ∧ τ.m 2000010 (σ.c 2000010) = some ⟨3, [fl (theF l o.n)], true, true⟩ ∧
    RowW τ 3 p (fls l) ∧ Kp (2000000 ≤ ·) σ τ ∧ fr 0 = p ∧ fr 1 = .sc (.int .i64 (posF l o.n : Int)) ∧ fr 7 = .bx 2000007 (σ.c 2000007) 3 0 0 ∧ fr 10 = .bx 2000010 (σ.c 2000010) 3 0 0) ?_ ?_
  · cases hh : hasF l o.n with
    | true =>
      obtain ⟨f0, q1, q2, q3⟩ := pos_at hs hh
      have hlt := (List.getElem?_eq_some_iff.1 q1).1
      have htf : theF l o.n = f0 := by unfold theF; rw [q3]; rfl
      rcases hw with ⟨rfl, hx⟩ | ⟨o1, g1, rfl, h3, h4⟩
      · have h0 : l.length = 0 := by rw [← hln, hx]; rfl
        omega
      · have e1 : (0 : Int) ≤ ((posF l o.n : Nat) : Int) ∧ ((posF l o.n : Nat) : Int) < ((fls l).length : Int) := by rw [hln]; omega
        have hne7 : ¬ (o1 = 2000007) := by omega
        have hne10 : ¬ (o1 = 2000010) := by omega
        have hy := fls_at q1
        unfold fl at hy
        rw [htf]
        (repeat' first
    | refine w_seq ?_ | refine w_rg ?_ | refine wo_nil ?_ | refine g_skU ?_ | refine g_skT ?_ | refine g_skF ?_
    | ((first | apply s_plain | apply s_void | apply s_guard | apply g_goT | apply g_goF); · simp only [go_sem, Nat.reduceEqDiff, Nat.reduceAdd, Nat.reduceLeDiff, e1, Int.toNat_natCast, hne7, hne10, false_and, h3, hy, List.set_cons_succ]; (first | done | rfl))
    | ((first | apply g_T | apply g_F | apply g_gT | apply g_gF); · intro q1_; (first | intro q2_ | have q2_ := q1_); simp only [go_sem, Nat.reduceEqDiff, Nat.reduceAdd, Nat.reduceLeDiff, e1, Int.toNat_natCast, hne7, hne10, false_and, h3, hy, List.set_cons_succ, q1_, q2_]; (first | done | rfl))
    | (apply w_condX; · simp only [go_sem, Nat.reduceEqDiff, Nat.reduceAdd, Nat.reduceLeDiff, e1, Int.toNat_natCast, hne7, hne10, false_and, h3, hy, List.set_cons_succ]; (first | done | rfl)); (first | refine wcd_T ?_ | refine wcd_F ?_)
    | refine w_skip ?_ | refine w_exit ?_ | refine w_ret ?_
    | fail
    )
        refine ⟨rfl, by simp only [go_sem, Nat.reduceEqDiff, Nat.reduceAdd, Nat.reduceLeDiff, List.set_cons_succ], by simp only [go_sem, Nat.reduceEqDiff, Nat.reduceAdd, Nat.reduceLeDiff, List.set_cons_succ, fl], ?_, ?_, by simp only [go_sem, Nat.reduceEqDiff, Nat.reduceAdd, Nat.reduceLeDiff], by simp only [go_sem, Nat.reduceEqDiff, Nat.reduceAdd, Nat.reduceLeDiff], by simp only [go_sem, Nat.reduceEqDiff, Nat.reduceAdd, Nat.reduceLeDiff], by simp only [go_sem, Nat.reduceEqDiff, Nat.reduceAdd, Nat.reduceLeDiff]⟩
        · exact ((((RowW.new (.inr ⟨o1, g1, rfl, h3, h4⟩) hF _ _).new (hF.new _ _) _ _).put (by decide) _).put (by decide) _)
        · exact ((((Kp.refl hF).new _ _).new _ _).put (x := ⟨3, [.agg [.sc (.string ⟨#[]⟩), .sc (.string ⟨#[]⟩), .sc (.string ⟨#[]⟩)]], true, true⟩) (by simp only [go_sem, Nat.reduceEqDiff, Nat.reduceAdd, Nat.reduceLeDiff]) (.inr (Nat.le_refl _)) _).put (x := ⟨3, [.agg [txt o.n, .sc (.string ⟨#[]⟩), .sc (.string ⟨#[]⟩)]], true, true⟩) (by simp only [go_sem, Nat.reduceEqDiff, Nat.reduceAdd, Nat.reduceLeDiff]) (.inr (Nat.le_refl _)) _
    | false =>
      have htf : theF l o.n = ⟨o.n, [], []⟩ := by
        unfold hasF at hh
        unfold theF
        rw [show getF l o.n = none by simpa using hh]; rfl
      rw [htf]
      (repeat' first
    | refine w_seq ?_ | refine w_rg ?_ | refine wo_nil ?_ | refine g_skU ?_ | refine g_skT ?_ | refine g_skF ?_
    | ((first | apply s_plain | apply s_void | apply s_guard | apply g_goT | apply g_goF); · simp only [go_sem, Nat.reduceEqDiff, Nat.reduceAdd, Nat.reduceLeDiff, List.set_cons_succ]; (first | done | rfl))
    | ((first | apply g_T | apply g_F | apply g_gT | apply g_gF); · intro q1_; (first | intro q2_ | have q2_ := q1_); simp only [go_sem, Nat.reduceEqDiff, Nat.reduceAdd, Nat.reduceLeDiff, List.set_cons_succ, q1_, q2_]; (first | done | rfl))
    | (apply w_condX; · simp only [go_sem, Nat.reduceEqDiff, Nat.reduceAdd, Nat.reduceLeDiff, List.set_cons_succ]; (first | done | rfl)); (first | refine wcd_T ?_ | refine wcd_F ?_)
    | refine w_skip ?_ | refine w_exit ?_ | refine w_ret ?_
    | fail
    )
      refine ⟨rfl, by simp only [go_sem, Nat.reduceEqDiff, Nat.reduceAdd, Nat.reduceLeDiff, List.set_cons_succ], by simp only [go_sem, Nat.reduceEqDiff, Nat.reduceAdd, Nat.reduceLeDiff, List.set_cons_succ, fl]; first | done | rfl, ?_, ?_, by simp only [go_sem, Nat.reduceEqDiff, Nat.reduceAdd, Nat.reduceLeDiff], by simp only [go_sem, Nat.reduceEqDiff, Nat.reduceAdd, Nat.reduceLeDiff], by simp only [go_sem, Nat.reduceEqDiff, Nat.reduceAdd, Nat.reduceLeDiff], by simp only [go_sem, Nat.reduceEqDiff, Nat.reduceAdd, Nat.reduceLeDiff]⟩
      · exact ((hw.new hF _ _).new (hF.new _ _) _ _).put (by decide) _
      · exact (((Kp.refl hF).new _ _).new _ _).put (x := ⟨3, [.agg [.sc (.string ⟨#[]⟩), .sc (.string ⟨#[]⟩), .sc (.string ⟨#[]⟩)]], true, true⟩) (by simp only [go_sem, Nat.reduceEqDiff, Nat.reduceAdd, Nat.reduceLeDiff]) (.inr (Nat.le_refl _)) _
  rintro x fr1 τ ⟨rfl, m7, m10, hw1, kp, f0, f1, f7, f10⟩
  try show Wp _ _ _ _ _
  (repeat' first
    | refine w_seq ?_ | refine w_rg ?_ | refine wo_nil ?_ | refine g_skU ?_ | refine g_skT ?_ | refine g_skF ?_
    | ((first | apply s_plain | apply s_void | apply s_guard | apply g_goT | apply g_goF); · simp only [go_sem, Nat.reduceEqDiff, Nat.reduceAdd, Nat.reduceLeDiff, f7, m7]; (first | done | rfl))
    | ((first | apply g_T | apply g_F | apply g_gT | apply g_gF); · intro q1_; (first | intro q2_ | have q2_ := q1_); simp only [go_sem, Nat.reduceEqDiff, Nat.reduceAdd, Nat.reduceLeDiff, f7, m7, q1_, q2_]; (first | done | rfl))
    | fail
    )
  have hlt10 : σ.c 2000010 < τ.c 2000010 := kp.f _ _ (by rw [m10]; rfl)
  refine Wp.mono (Q := SwP σ (doneF l o) (newF l o)) ?_ ?_
  · refine w_block ?_
    (repeat' first
    | refine w_seq ?_ | refine w_rg ?_ | refine wo_nil ?_ | refine g_skU ?_ | refine g_skT ?_ | refine g_skF ?_
    | ((first | apply s_plain | apply s_void | apply s_guard | apply g_goT | apply g_goF); · simp only [go_sem, Nat.reduceEqDiff, Nat.reduceAdd, Nat.reduceLeDiff]; (first | done | rfl))
    | ((first | apply g_T | apply g_F | apply g_gT | apply g_gF); · intro q1_; (first | intro q2_ | have q2_ := q1_); simp only [go_sem, Nat.reduceEqDiff, Nat.reduceAdd, Nat.reduceLeDiff, q1_, q2_]; (first | done | rfl))
    | fail
    )
    refine w_block ?_
    (repeat' first
    | refine w_seq ?_ | refine w_rg ?_ | refine wo_nil ?_ | refine g_skU ?_ | refine g_skT ?_ | refine g_skF ?_
    | ((first | apply s_plain | apply s_void | apply s_guard | apply g_goT | apply g_goF); · simp only [go_sem, Nat.reduceEqDiff, Nat.reduceAdd, Nat.reduceLeDiff]; (first | done | rfl))
    | ((first | apply g_T | apply g_F | apply g_gT | apply g_gF); · intro q1_; (first | intro q2_ | have q2_ := q1_); simp only [go_sem, Nat.reduceEqDiff, Nat.reduceAdd, Nat.reduceLeDiff, q1_, q2_]; (first | done | rfl))
    | fail
    )
    refine w_block ?_
    (repeat' first
    | refine w_seq ?_ | refine w_rg ?_ | refine wo_nil ?_ | refine g_skU ?_ | refine g_skT ?_ | refine g_skF ?_
    | ((first | apply s_plain | apply s_void | apply s_guard | apply g_goT | apply g_goF); · simp only [go_sem, Nat.reduceEqDiff, Nat.reduceAdd, Nat.reduceLeDiff]; (first | done | rfl))
    | ((first | apply g_T | apply g_F | apply g_gT | apply g_gF); · intro q1_; (first | intro q2_ | have q2_ := q1_); simp only [go_sem, Nat.reduceEqDiff, Nat.reduceAdd, Nat.reduceLeDiff, q1_, q2_]; (first | done | rfl))
    | fail
    )
    refine w_block ?_
    (repeat' first
    | refine w_seq ?_ | refine w_rg ?_ | refine wo_nil ?_ | refine g_skU ?_ | refine g_skT ?_ | refine g_skF ?_
    | ((first | apply s_plain | apply s_void | apply s_guard | apply g_goT | apply g_goF); · simp only [go_sem, Nat.reduceEqDiff, Nat.reduceAdd, Nat.reduceLeDiff]; (first | done | rfl))
    | ((first | apply g_T | apply g_F | apply g_gT | apply g_gF); · intro q1_; (first | intro q2_ | have q2_ := q1_); simp only [go_sem, Nat.reduceEqDiff, Nat.reduceAdd, Nat.reduceLeDiff, q1_, q2_]; (first | done | rfl))
    | fail
    )
    refine w_block ?_
    (repeat' first
    | refine w_seq ?_ | refine w_rg ?_ | refine wo_nil ?_ | refine g_skU ?_ | refine g_skT ?_ | refine g_skF ?_
    | ((first | apply s_plain | apply s_void | apply s_guard | apply g_goT | apply g_goF); · simp only [go_sem, Nat.reduceEqDiff, Nat.reduceAdd, Nat.reduceLeDiff]; (first | done | rfl))
    | ((first | apply g_T | apply g_F | apply g_gT | apply g_gF); · intro q1_; (first | intro q2_ | have q2_ := q1_); simp only [go_sem, Nat.reduceEqDiff, Nat.reduceAdd, Nat.reduceLeDiff, q1_, q2_]; (first | done | rfl))
    | fail
    )
    rw [hk4] at m7 ⊢
    obtain ⟨f0', q1, q2, q3⟩ := pos_at hs hh
    have hlt := (List.getElem?_eq_some_iff.1 q1).1
    have hnf : newF l o = theF l o.n := by unfold newF; rw [if_neg (by omega), if_neg (by omega), if_neg (by omega)]
    have hdf : doneF l o = delF' l o.n := by unfold doneF; rw [if_neg (by omega), if_neg (by omega)]
    rw [hdf, hnf]
    unfold fl at m10
    rw [htn] at m10
    have d1 : ((4 : Int) == 1) = false := rfl
    have d2 : ((4 : Int) == 2) = false := rfl
    have d3 : ((4 : Int) == 3) = false := rfl
    have w1 : IntKind.i64.wrap ((posF l o.n : Int) + 1) = ((posF l o.n + 1 : Nat) : Int) := by rw [IntKind.wrap_i64]; omega
    (repeat' first
    | refine w_seq ?_ | refine w_rg ?_ | refine wo_nil ?_ | refine g_skU ?_ | refine g_skT ?_ | refine g_skF ?_
    | ((first | apply s_plain | apply s_void | apply s_guard | apply g_goT | apply g_goF); · simp only [go_sem, Nat.reduceEqDiff, Nat.reduceAdd, Nat.reduceLeDiff, beq_self_eq_true, d1, d2, d3]; (first | done | rfl))
    | ((first | apply g_T | apply g_F | apply g_gT | apply g_gF); · intro q1_; (first | intro q2_ | have q2_ := q1_); simp only [go_sem, Nat.reduceEqDiff, Nat.reduceAdd, Nat.reduceLeDiff, beq_self_eq_true, d1, d2, d3, q1_, q2_]; (first | done | rfl))
    | (apply w_condX; · simp only [go_sem, Nat.reduceEqDiff, Nat.reduceAdd, Nat.reduceLeDiff, beq_self_eq_true, d1, d2, d3]; (first | done | rfl)); (first | refine wcd_T ?_ | refine wcd_F ?_)
    | refine w_skip ?_ | refine w_exit ?_ | refine w_ret ?_
    | fail
    )
    try simp only [if_true, if_false, Nat.reduceEqDiff, reduceCtorEq]
    try show Wp _ _ _ _ _
    (repeat' first
    | refine w_seq ?_ | refine w_rg ?_ | refine wo_nil ?_ | refine g_skU ?_ | refine g_skT ?_ | refine g_skF ?_
    | ((first | apply s_plain | apply s_void | apply s_guard | apply g_goT | apply g_goF); · simp only [go_sem, Nat.reduceEqDiff, Nat.reduceAdd, Nat.reduceLeDiff, f0, f1, w1]; (first | done | rfl))
    | ((first | apply g_T | apply g_F | apply g_gT | apply g_gF); · intro q1_; (first | intro q2_ | have q2_ := q1_); simp only [go_sem, Nat.reduceEqDiff, Nat.reduceAdd, Nat.reduceLeDiff, f0, f1, w1, q1_, q2_]; (first | done | rfl))
    | fail
    )
    obtain ⟨q, τ3, h1, h2, h3⟩ := e_del (J (278, .prim (delF 3)) (by simp [lja])) hw1 (i := posF l o.n) (by rw [hln]; exact hlt) kp.f
    refine s_plain (v := q) (σ' := τ3) (by simp only [go_sem, Nat.reduceEqDiff, Nat.reduceAdd, Nat.reduceLeDiff, f0, f1, w1]; exact h1) ?_
    have k3 := kp.trans h3
    have hlt7 : σ.c 2000007 < τ.c 2000007 := kp.f _ _ (by rw [m7]; rfl)
    have m3 : τ3.m 2000010 (σ.c 2000010) = some ⟨3, [.agg [txt o.n, txt (theF l o.n).s, txt (theF l o.n).t]], true, true⟩ := by
      rw [h3.m 2000010 (σ.c 2000010) (by decide) hlt10]; exact m10
    have m37 : τ3.m 2000007 (σ.c 2000007) = some ⟨3, [.agg [.sc (.int .i64 4), txt o.n, txt o.d]], true, true⟩ := by
      rw [h3.m 2000007 (σ.c 2000007) (by decide) hlt7]; simp only [go_sem, Nat.reduceEqDiff, Nat.reduceAdd, Nat.reduceLeDiff, m7]
    have hdl : (fls l).take (posF l o.n) ++ (fls l).drop (posF l o.n + 1) = fls (delF' l o.n) := by
      unfold delF'
      simp only [fls, List.map_append, List.map_take, List.map_drop]
    rw [hdl] at h2
    have hnq : (!(o.n == o.n)) = false := by simp
    (repeat' first
    | refine w_seq ?_ | refine w_rg ?_ | refine wo_nil ?_ | refine g_skU ?_ | refine g_skT ?_ | refine g_skF ?_
    | ((first | apply s_plain | apply s_void | apply s_guard | apply g_goT | apply g_goF); · simp only [go_sem, Nat.reduceEqDiff, Nat.reduceAdd, Nat.reduceLeDiff, f7, f10, m3, m37, hnq, d3]; (first | done | rfl))
    | ((first | apply g_T | apply g_F | apply g_gT | apply g_gF); · intro q1_; (first | intro q2_ | have q2_ := q1_); simp only [go_sem, Nat.reduceEqDiff, Nat.reduceAdd, Nat.reduceLeDiff, f7, f10, m3, m37, hnq, d3, q1_, q2_]; (first | done | rfl))
    | (apply w_condX; · simp only [go_sem, Nat.reduceEqDiff, Nat.reduceAdd, Nat.reduceLeDiff, f7, f10, m3, m37, hnq, d3]; (first | done | rfl)); (first | refine wcd_T ?_ | refine wcd_F ?_)
    | refine w_skip ?_ | refine w_exit ?_ | refine w_ret ?_
    | fail
    )
    try simp only [if_true, if_false, Nat.reduceEqDiff, reduceCtorEq]
    exact ⟨rfl, ⟨q, by simp only [go_sem, Nat.reduceEqDiff, Nat.reduceAdd, Nat.reduceLeDiff], h2⟩, k3, by unfold fl; rw [htn]; exact m3, by simp only [go_sem, Nat.reduceEqDiff, Nat.reduceAdd, Nat.reduceLeDiff, f10]⟩
  · rintro x fr2 τ2 ⟨rfl, ⟨q, g0, hq⟩, kq, mq, g10⟩
    try show Wp _ _ _ _ _
    have hlp := hq.lenP
    have hdl := fls_len (doneF l o)
    obtain ⟨ok3, ok4⟩ := hq.ok
    unfold fl at mq
    have hnf1 := newF_le hts.1 hts.2 ho.d
    have hroom : roomF l o = (decide ((doneF l o).length ≤ 16) && decide ((newF l o).s.length + (newF l o).t.length ≤ 16384)) := rfl
    rw [hroom]
    clear hroom hw1 m7 m10 htn hts
    generalize newF l o = nf at mq hnf1 ⊢
    generalize hdd : doneF l o = df at hq hlp hdl ⊢
    have w1 : IntKind.i64.wrap ((nf.s.length : Int) + (nf.t.length : Int)) = ((nf.s.length + nf.t.length : Nat) : Int) := by rw [IntKind.wrap_i64]; omega
    have e1 := le16k (nf.s.length + nf.t.length)
    have e2 := le16 df.length (z := 16) rfl
    generalize decide (nf.s.length + nf.t.length ≤ 16384) = B at e1 ⊢
    generalize decide (df.length ≤ 16) = C at e2 ⊢
    cases C with
    | true =>
      refine w_seq (w_rg ?_)
      refine s_plain (v := q) (σ' := τ2) (by simp only [go_sem, Nat.reduceEqDiff, Nat.reduceAdd, Nat.reduceLeDiff, g0]) ?_
      refine s_plain (v := q) (σ' := τ2) (by simp only [go_sem, Nat.reduceEqDiff, Nat.reduceAdd, Nat.reduceLeDiff, g0]) ?_
      refine s_plain (v := .sc (.int .i64 (df.length : Int))) (σ' := τ2) (by simp only [go_sem, Nat.reduceEqDiff, Nat.reduceAdd, Nat.reduceLeDiff, hlp, hdl]; first | done | rfl) ?_
      refine s_plain (v := .sc (.bool true)) (σ' := τ2) (by simp only [go_sem, Nat.reduceEqDiff, Nat.reduceAdd, Nat.reduceLeDiff, e2]) ?_
      refine s_plain (v := .sc (.bool true)) (σ' := τ2) (by simp only [go_sem, Nat.reduceEqDiff, Nat.reduceAdd, Nat.reduceLeDiff]) ?_
      refine s_guard (g := .sc (.bool true)) (by simp only [go_sem, Nat.reduceEqDiff, Nat.reduceAdd, Nat.reduceLeDiff]) ?_
      refine g_goT (v := .bx 2000010 (σ.c 2000010) 3 0 1) (σ' := τ2) (by simp only [go_sem, Nat.reduceEqDiff, Nat.reduceAdd, Nat.reduceLeDiff, g10]) ?_
      refine s_guard (g := .sc (.bool true)) (by simp only [go_sem, Nat.reduceEqDiff, Nat.reduceAdd, Nat.reduceLeDiff]) ?_
      refine g_goT (v := txt nf.s) (σ' := τ2) (by simp only [go_sem, Nat.reduceEqDiff, Nat.reduceAdd, Nat.reduceLeDiff, mq]) ?_
      refine s_guard (g := .sc (.bool true)) (by simp only [go_sem, Nat.reduceEqDiff, Nat.reduceAdd, Nat.reduceLeDiff]) ?_
      refine g_goT (v := .sc (.int .i64 (nf.s.length : Int))) (σ' := τ2) (by simp only [go_sem, Nat.reduceEqDiff, Nat.reduceAdd, Nat.reduceLeDiff, List.size_toArray]) ?_
      refine s_guard (g := .sc (.bool true)) (by simp only [go_sem, Nat.reduceEqDiff, Nat.reduceAdd, Nat.reduceLeDiff]) ?_
      refine g_goT (v := .bx 2000010 (σ.c 2000010) 3 0 2) (σ' := τ2) (by simp only [go_sem, Nat.reduceEqDiff, Nat.reduceAdd, Nat.reduceLeDiff, g10]) ?_
      refine s_guard (g := .sc (.bool true)) (by simp only [go_sem, Nat.reduceEqDiff, Nat.reduceAdd, Nat.reduceLeDiff]) ?_
      refine g_goT (v := txt nf.t) (σ' := τ2) (by simp only [go_sem, Nat.reduceEqDiff, Nat.reduceAdd, Nat.reduceLeDiff, mq]) ?_
      refine s_guard (g := .sc (.bool true)) (by simp only [go_sem, Nat.reduceEqDiff, Nat.reduceAdd, Nat.reduceLeDiff]) ?_
      refine g_goT (v := .sc (.int .i64 (nf.t.length : Int))) (σ' := τ2) (by simp only [go_sem, Nat.reduceEqDiff, Nat.reduceAdd, Nat.reduceLeDiff, List.size_toArray]) ?_
      refine s_guard (g := .sc (.bool true)) (by simp only [go_sem, Nat.reduceEqDiff, Nat.reduceAdd, Nat.reduceLeDiff]) ?_
      refine g_goT (v := .sc (.int .i64 ((nf.s.length + nf.t.length : Nat) : Int))) (σ' := τ2) (by simp only [go_sem, Nat.reduceEqDiff, Nat.reduceAdd, Nat.reduceLeDiff, w1]) ?_
      refine s_guard (g := .sc (.bool true)) (by simp only [go_sem, Nat.reduceEqDiff, Nat.reduceAdd, Nat.reduceLeDiff]) ?_
      refine g_goT (v := .sc (.bool B)) (σ' := τ2) (by simp only [go_sem, Nat.reduceEqDiff, Nat.reduceAdd, Nat.reduceLeDiff, e1]) ?_
      refine s_plain (v := .sc (.bool B)) (σ' := τ2) (by simp only [go_sem, Nat.reduceEqDiff, Nat.reduceAdd, Nat.reduceLeDiff]) ?_
      refine s_plain (v := q) (σ' := τ2) (by simp only [go_sem, Nat.reduceEqDiff, Nat.reduceAdd, Nat.reduceLeDiff]) ?_
      refine s_plain (v := .sc (.bool B)) (σ' := τ2) (by simp only [go_sem, Nat.reduceEqDiff, Nat.reduceAdd, Nat.reduceLeDiff]) ?_
      refine wo_nil (w_ret ?_)
      exact ⟨.inr rfl, .tu [q, .sc (.bool B)], by simp only [go_sem, Nat.reduceEqDiff, Nat.reduceAdd, Nat.reduceLeDiff, retOf, resOf], ⟨⟨q, rfl, hq⟩, kq⟩⟩
    | false =>
      refine w_seq (w_rg ?_)
      refine s_plain (v := q) (σ' := τ2) (by simp only [go_sem, Nat.reduceEqDiff, Nat.reduceAdd, Nat.reduceLeDiff, g0]) ?_
      refine s_plain (v := q) (σ' := τ2) (by simp only [go_sem, Nat.reduceEqDiff, Nat.reduceAdd, Nat.reduceLeDiff, g0]) ?_
      refine s_plain (v := .sc (.int .i64 (df.length : Int))) (σ' := τ2) (by simp only [go_sem, Nat.reduceEqDiff, Nat.reduceAdd, Nat.reduceLeDiff, hlp, hdl]; first | done | rfl) ?_
      refine s_plain (v := .sc (.bool false)) (σ' := τ2) (by simp only [go_sem, Nat.reduceEqDiff, Nat.reduceAdd, Nat.reduceLeDiff, e2]) ?_
      refine s_plain (v := .sc (.bool false)) (σ' := τ2) (by simp only [go_sem, Nat.reduceEqDiff, Nat.reduceAdd, Nat.reduceLeDiff]) ?_
      iterate 8 (refine s_guard (g := .sc (.bool false)) (by simp only [go_sem, Nat.reduceEqDiff, Nat.reduceAdd, Nat.reduceLeDiff]) ?_; refine g_skT ?_)
      refine s_plain (v := .sc (.bool false)) (σ' := τ2) (by simp only [go_sem, Nat.reduceEqDiff, Nat.reduceAdd, Nat.reduceLeDiff]) ?_
      refine s_plain (v := q) (σ' := τ2) (by simp only [go_sem, Nat.reduceEqDiff, Nat.reduceAdd, Nat.reduceLeDiff]) ?_
      refine s_plain (v := .sc (.bool false)) (σ' := τ2) (by simp only [go_sem, Nat.reduceEqDiff, Nat.reduceAdd, Nat.reduceLeDiff]) ?_
      refine wo_nil (w_ret ?_)
      exact ⟨.inr rfl, .tu [q, .sc (.bool false)], by simp only [go_sem, Nat.reduceEqDiff, Nat.reduceAdd, Nat.reduceLeDiff, retOf, resOf], ⟨⟨q, rfl, hq⟩, kq⟩⟩
theorem a267 (J : Has lja env) (D : Has ljd env) (O : Has ljb env) (G : Has ljf env) (G2 : Has ljg env) {l : List Fl} {o : Op9} (hw : RowW σ 3 p (fls l)) (hs : Srt l) (hl : l.length ≤ 900) (hsm : ∀ f ∈ l, f.Sm) (ho : o.Sm) (hF : Fresh σ)
    (hk : o.k = 1 ∨ (hasF l o.n = true ∧ (o.k = 2 ∨ o.k = 3 ∨ o.k = 4))) :
    ∃ q σ', EV env 267 [p, .sc (.int .i64 (posF l o.n : Int)), .sc (.bool (hasF l o.n)), opV o] σ = some (.tu [q, .sc (.bool (roomF l o))], σ') ∧ RowW σ' 3 q (fls (doneF l o)) ∧ Kp (2000000 ≤ ·) σ σ' := by
  rcases hk with hk1 | ⟨hh, hk2 | hk3 | hk4⟩
  · exact a267_1 J D O G G2 hw hs hl hsm ho hF hk1
  · exact a267_2 J D O G G2 hw hs hl hsm ho hF hh hk2
  · exact a267_3 J D O G G2 hw hs hl hsm ho hF hh hk3
  · exact a267_4 J D O G G2 hw hs hl hsm ho hF hh hk4
end

def d255 : Def := (.code 2 [.cell 4 (.some 1), .tmp 5] (.seq (.rg false [⟨.some 2, .none, .box (.t 0)⟩, ⟨.some 3, .none, .box (.t 1)⟩, ⟨.some 4, .none, .box (.c (.agg #[.slice .none 0 0]))⟩, ⟨.some 5, .none, .mv (.c (.int .i64 0))⟩]) (.seq (.seq (.rg false [⟨.some 10, .none, .ld (.some 1) (.t 2)⟩, ⟨.some 11, .none, .call 257 .pure [.t 10]⟩, ⟨.some 12, .none, .un .not (.t 11)⟩, ⟨.some 13, .none, .mv (.t 12)⟩, ⟨.some 14, .some (13, false), .fa 0 (.t 3)⟩, ⟨.some 15, .some (13, false), .ld .none (.t 14)⟩, ⟨.some 16, .some (13, false), .bin .lss (.t 15) (.c (.int .i64 1))⟩, ⟨.some 17, .none, .pick (.t 13) (.c (.bool true)) (.t 16)⟩, ⟨.some 18, .none, .mv (.t 17)⟩, ⟨.some 19, .some (18, false), .fa 0 (.t 3)⟩, ⟨.some 20, .some (18, false), .ld .none (.t 19)⟩, ⟨.some 21, .some (18, false), .bin .gtr (.t 20) (.c (.int .i64 4))⟩, ⟨.some 22, .none, .pick (.t 18) (.c (.bool true)) (.t 21)⟩, ⟨.some 23, .none, .mv (.t 22)⟩, ⟨.some 24, .some (23, false), .fa 1 (.t 3)⟩, ⟨.some 25, .some (23, false), .ld .none (.t 24)⟩, ⟨.some 26, .some (23, false), .call 265 .pure [.t 25]⟩, ⟨.some 27, .some (23, false), .un .not (.t 26)⟩, ⟨.some 28, .none, .pick (.t 23) (.c (.bool true)) (.t 27)⟩, ⟨.some 29, .none, .mv (.t 28)⟩, ⟨.some 30, .some (29, false), .fa 0 (.t 3)⟩, ⟨.some 31, .some (29, false), .ld .none (.t 30)⟩, ⟨.some 32, .some (29, false), .bin .eql (.t 31) (.c (.int .i64 3))⟩, ⟨.some 33, .some (29, false), .mv (.t 32)⟩, ⟨.some 34, .some (33, true), .fa 2 (.t 3)⟩, ⟨.some 35, .some (33, true), .ld .none (.t 34)⟩, ⟨.some 36, .some (33, true), .call 265 .pure [.t 35]⟩, ⟨.some 37, .some (33, true), .un .not (.t 36)⟩, ⟨.some 38, .some (29, false), .pick (.t 33) (.t 37) (.c (.bool false))⟩, ⟨.some 39, .none, .pick (.t 29) (.c (.bool true)) (.t 38)⟩]) (.cond (.t 39) (.seq (.rg false [⟨.some 40, .none, .build (.agg #[.slice .none 0 0]) []⟩, ⟨.none, .none, .st 1 (.t 4) (.t 40)⟩, ⟨.some 5, .none, .mv (.c (.int .i64 1))⟩]) .ret) .skip)) (.seq (.rg false [⟨.some 42, .none, .fa 0 (.t 2)⟩, ⟨.some 43, .none, .ld .none (.t 42)⟩, ⟨.some 44, .none, .fa 1 (.t 3)⟩, ⟨.some 45, .none, .ld .none (.t 44)⟩, ⟨.some 46, .none, .call 266 .pure [.t 43, .t 45]⟩, ⟨.some 41, .none, .mv (.t 46)⟩, ⟨.some 47, .none, .ext (.t 41) 0⟩, ⟨.some 48, .none, .ext (.t 41) 1⟩, ⟨.some 6, .none, .mv (.t 47)⟩, ⟨.some 7, .none, .mv (.t 48)⟩]) (.seq (.seq (.rg false [⟨.some 49, .none, .mv (.t 7)⟩, ⟨.some 50, .none, .un .not (.t 49)⟩, ⟨.some 51, .none, .mv (.t 50)⟩, ⟨.some 52, .some (51, true), .fa 0 (.t 3)⟩, ⟨.some 53, .some (51, true), .ld .none (.t 52)⟩, ⟨.some 54, .some (51, true), .bin .neq (.t 53) (.c (.int .i64 1))⟩, ⟨.some 55, .none, .pick (.t 51) (.t 54) (.c (.bool false))⟩]) (.cond (.t 55) (.seq (.rg false [⟨.some 56, .none, .build (.agg #[.slice .none 0 0]) []⟩, ⟨.none, .none, .st 1 (.t 4) (.t 56)⟩, ⟨.some 5, .none, .mv (.c (.int .i64 9))⟩]) .ret) .skip)) (.seq (.rg true [⟨.some 58, .none, .fa 0 (.t 2)⟩, ⟨.some 59, .none, .ld .none (.t 58)⟩, ⟨.some 61, .none, .mv (.t 6)⟩, ⟨.some 62, .none, .mv (.t 7)⟩, ⟨.some 63, .none, .ld (.some 3) (.t 3)⟩, ⟨.some 60, .none, .icall 268 [.t 59]⟩, ⟨.some 64, .none, .call 267 .opn [.t 60, .t 61, .t 62, .t 63]⟩, ⟨.some 57, .none, .mv (.t 64)⟩, ⟨.some 65, .none, .ext (.t 57) 0⟩, ⟨.some 66, .none, .ext (.t 57) 1⟩, ⟨.some 8, .none, .mv (.t 65)⟩, ⟨.some 9, .none, .mv (.t 66)⟩]) (.seq (.seq (.rg false [⟨.some 67, .none, .mv (.t 9)⟩, ⟨.some 68, .none, .un .not (.t 67)⟩]) (.cond (.t 68) (.seq (.rg false [⟨.some 69, .none, .build (.agg #[.slice .none 0 0]) []⟩, ⟨.none, .none, .st 1 (.t 4) (.t 69)⟩, ⟨.some 5, .none, .mv (.c (.int .i64 13))⟩]) .ret) .skip)) (.seq (.rg false [⟨.some 70, .none, .mv (.t 8)⟩, ⟨.some 71, .none, .build (.agg #[.slice .none 0 0]) [(0, (1, .t 70))]⟩, ⟨.none, .none, .st 1 (.t 4) (.t 71)⟩, ⟨.some 5, .none, .mv (.c (.int .i64 0))⟩]) .ret))))))))
def d259 : Def := (.code 2 [.tmp 4, .tmp 5] (.seq (.rg false [⟨.some 2, .none, .box (.t 0)⟩, ⟨.some 4, .none, .mv (.c (.string ⟨#[]⟩))⟩, ⟨.some 5, .none, .mv (.c (.int .i64 0))⟩]) (.seq (.seq (.rg false [⟨.some 8, .none, .ld (.some 1) (.t 2)⟩, ⟨.some 9, .none, .call 257 .pure [.t 8]⟩, ⟨.some 10, .none, .un .not (.t 9)⟩]) (.cond (.t 10) (.seq (.rg false [⟨.some 4, .none, .mv (.c (.string ⟨#[]⟩))⟩, ⟨.some 5, .none, .mv (.c (.int .i64 1))⟩]) .ret) .skip)) (.seq (.rg false [⟨.some 12, .none, .fa 0 (.t 2)⟩, ⟨.some 13, .none, .ld .none (.t 12)⟩, ⟨.some 14, .none, .mv (.t 1)⟩, ⟨.some 15, .none, .call 266 .pure [.t 13, .t 14]⟩, ⟨.some 11, .none, .mv (.t 15)⟩, ⟨.some 16, .none, .ext (.t 11) 0⟩, ⟨.some 17, .none, .ext (.t 11) 1⟩, ⟨.some 6, .none, .mv (.t 16)⟩, ⟨.some 7, .none, .mv (.t 17)⟩]) (.seq (.seq (.rg false [⟨.some 18, .none, .mv (.t 7)⟩, ⟨.some 19, .none, .un .not (.t 18)⟩]) (.cond (.t 19) (.seq (.rg false [⟨.some 4, .none, .mv (.c (.string ⟨#[]⟩))⟩, ⟨.some 5, .none, .mv (.c (.int .i64 9))⟩]) .ret) .skip)) (.seq (.rg true [⟨.some 20, .none, .fa 0 (.t 2)⟩, ⟨.some 21, .none, .ld .none (.t 20)⟩, ⟨.some 22, .none, .mv (.t 6)⟩, ⟨.some 23, .none, .ia 3 (.t 21) (.t 22)⟩, ⟨.some 24, .none, .fa 1 (.t 23)⟩, ⟨.some 25, .none, .ld .none (.t 24)⟩, ⟨.some 26, .none, .fa 0 (.t 2)⟩, ⟨.some 27, .none, .ld .none (.t 26)⟩, ⟨.some 28, .none, .mv (.t 6)⟩, ⟨.some 29, .none, .ia 3 (.t 27) (.t 28)⟩, ⟨.some 30, .none, .fa 2 (.t 29)⟩, ⟨.some 31, .none, .ld .none (.t 30)⟩, ⟨.some 32, .none, .bin .add (.t 25) (.t 31)⟩, ⟨.some 4, .none, .mv (.t 32)⟩, ⟨.some 5, .none, .mv (.c (.int .i64 0))⟩]) .ret))))))
def ljh : List (Nat × Def) := [(255, d255), (259, d259)]
def badO (l : List Fl) (o : Op9) : Bool := !rightS l || decide (o.k < 1) || decide (o.k > 4) || !wordD o.n || ((o.k == 3) && !wordD o.d)
def doS (l : List Fl) (o : Op9) : List Fl × Int := if badO l o then ([], 1) else if !hasF l o.n && (o.k != 1) then ([], 9) else if roomF l o then (doneF l o, 0) else ([], 13)
def readS (l : List Fl) (n : List UInt8) : List UInt8 × Int := if !rightS l then ([], 1) else match getF l n with
  | none => ([], 9)
  | some f => (f.s ++ f.t, 0)
section
variable {env : Nat → Option Def} {fr : Fr} {σ σ' σ'' : St} {K : Fr → St → Prop} {Q : X → Fr → St → Prop} {p : PV} {bs : List UInt8}
theorem fls_cl (l : List Fl) : clL (fls l) = true := clL_of fun p hp => by
  simp only [fls, List.mem_map] at hp
  obtain ⟨f, _, rfl⟩ := hp
  rfl
theorem e_clone {s : Nat} (J : Has lja env) {l : List Fl} (hl : l.length ≤ 1000000) (hs : s < 2000000) (hF : Fresh σ) : ∃ q σ', icallE (EV env) s 268 [.sl (fls l)] σ = some (q, σ') ∧ RowW σ' 3 q (fls l) ∧ Kp (2000000 ≤ ·) σ σ' := by
  have hk := J (268, .prim (cloneF 3 48)) (by simp [lja])
  have hall := fls_all l
  have hln := fls_len l
  by_cases h0 : (fls l).isEmpty = true
  · have he : fls l = [] := by simpa using h0
    refine ⟨.em, σ, @icall_em env s 268 [.sl (fls l)] [.sl (fls l)] σ St.nil rfl ?_, .inl ⟨rfl, he⟩, Kp.refl hF⟩
    rw [EV_prim hk]
    simp only [cloneF]
    rw [hall, Bool.true_and, if_pos (by rw [decide_eq_true_eq]; omega), if_pos h0]
  · refine ⟨.ob s (σ.c s) 3 0 (fls l).length, σ.new s ⟨3, fls l, true, true⟩, @icall_ob env s 268 7 0 [.sl (fls l)] [.sl (fls l)] ⟨3, fls l, true, true⟩ σ (St.nil.new 7 ⟨3, fls l, true, true⟩) rfl ?_ (by simp [new_m, nil_c]) rfl rfl (by
      rw [fls_cl]; simp [clL, cl]), .inr ⟨s, σ.c s, rfl, by simp [new_m], hs⟩, (Kp.refl hF).new _ _⟩
    rw [EV_prim hk]
    simp only [cloneF]
    rw [hall, Bool.true_and, if_pos (by rw [decide_eq_true_eq]; omega), if_neg h0]
    rfl
theorem a255 (A : Has law env) (A2 : Has lda env) (B : Has ldb env) (C : Has ldc env) (E : Has ljc env) (F : Has lje env) (J : Has lja env) (D : Has ljd env) (O : Has ljb env) (G : Has ljf env) (G2 : Has ljg env) (H : Has ljh env)
    {l : List Fl} {o : Op9} (hl : l.length ≤ 900) (hsm : ∀ f ∈ l, f.Sm) (ho : o.Sm) : AV env 255 [.agg [.sl (fls l)], opV o] = some (.tu [.agg [.sl (fls (doS l o).1)], .sc (.int .i64 (doS l o).2)]) := by
  have h257 := a257 A A2 B C E F (l := l) (by omega) hsm
  have hn := a265 A A2 B C E (s := o.n) ho.n
  have hd := a265 A A2 B C E (s := o.d) ho.d
  have hfe : ∀ (τ : St) (d : Nat), fz τ (d + 1) .em = some (.sl []) := fun _ _ => rfl
  refine AV_wp (H (255, d255) (by simp [ljh])) rfl ?_
  unfold opV
  cases hb : badO l o with
  | true =>
    have hr : doS l o = ([], 1) := by unfold doS; rw [hb, if_pos rfl]
    rw [hr]
    unfold badO at hb
    (repeat' first
    | refine w_seq ?_ | refine w_rg ?_ | refine wo_nil ?_ | refine g_skU ?_ | refine g_skT ?_ | refine g_skF ?_
    | ((first | apply s_plain | apply s_void | apply s_guard | apply g_goT | apply g_goF); · simp only [go_sem, Nat.reduceEqDiff, Nat.reduceAdd, Nat.reduceLeDiff, h257, hn, hd, hb, List.set_cons_succ]; (first | done | rfl))
    | ((first | apply g_T | apply g_F | apply g_gT | apply g_gF); · intro q1_; (first | intro q2_ | have q2_ := q1_); simp only [go_sem, Nat.reduceEqDiff, Nat.reduceAdd, Nat.reduceLeDiff, h257, hn, hd, hb, List.set_cons_succ, q1_, q2_]; (first | done | rfl))
    | (apply w_condX; · simp only [go_sem, Nat.reduceEqDiff, Nat.reduceAdd, Nat.reduceLeDiff, h257, hn, hd, hb, List.set_cons_succ]; (first | done | rfl)); (first | refine wcd_T ?_ | refine wcd_F ?_)
    | refine w_skip ?_ | refine w_exit ?_ | refine w_ret ?_
    | fail
    )
    exact ⟨by first | exact .inr rfl | exact .inr trivial | exact .inl rfl, by simp only [go_sem, Nat.reduceEqDiff, Nat.reduceAdd, Nat.reduceLeDiff, retOf, resOf, fls, List.map_nil, hfe]; first | done | rfl⟩
  | false =>
    have hb2 := hb
    unfold badO at hb2
    have hR : rightS l = true := by
      cases h : rightS l with
      | true => rfl
      | false => rw [h] at hb2; simp at hb2
    obtain ⟨hs, hf, hl16⟩ := rightS_iff.1 hR
    have h266 := a266 D O hs (by omega) o.n
    (repeat' first
    | refine w_seq ?_ | refine w_rg ?_ | refine wo_nil ?_ | refine g_skU ?_ | refine g_skT ?_ | refine g_skF ?_
    | ((first | apply s_plain | apply s_void | apply s_guard | apply g_goT | apply g_goF); · simp only [go_sem, Nat.reduceEqDiff, Nat.reduceAdd, Nat.reduceLeDiff, h257, hn, hd, hb2, List.set_cons_succ, h266]; (first | done | rfl))
    | ((first | apply g_T | apply g_F | apply g_gT | apply g_gF); · intro q1_; (first | intro q2_ | have q2_ := q1_); simp only [go_sem, Nat.reduceEqDiff, Nat.reduceAdd, Nat.reduceLeDiff, h257, hn, hd, hb2, List.set_cons_succ, h266, q1_, q2_]; (first | done | rfl))
    | (apply w_condX; · simp only [go_sem, Nat.reduceEqDiff, Nat.reduceAdd, Nat.reduceLeDiff, h257, hn, hd, hb2, List.set_cons_succ, h266]; (first | done | rfl)); (first | refine wcd_T ?_ | refine wcd_F ?_)
    | refine w_skip ?_ | refine w_exit ?_ | refine w_ret ?_
    | fail
    )
    cases he : (!hasF l o.n && (o.k != 1)) with
    | true =>
      have hr : doS l o = ([], 9) := by unfold doS; rw [hb, he, if_neg (by decide), if_pos rfl]
      rw [hr]
      (repeat' first
    | refine w_seq ?_ | refine w_rg ?_ | refine wo_nil ?_ | refine g_skU ?_ | refine g_skT ?_ | refine g_skF ?_
    | ((first | apply s_plain | apply s_void | apply s_guard | apply g_goT | apply g_goF); · simp only [go_sem, Nat.reduceEqDiff, Nat.reduceAdd, Nat.reduceLeDiff, he, List.set_cons_succ]; (first | done | rfl))
    | ((first | apply g_T | apply g_F | apply g_gT | apply g_gF); · intro q1_; (first | intro q2_ | have q2_ := q1_); simp only [go_sem, Nat.reduceEqDiff, Nat.reduceAdd, Nat.reduceLeDiff, he, List.set_cons_succ, q1_, q2_]; (first | done | rfl))
    | (apply w_condX; · simp only [go_sem, Nat.reduceEqDiff, Nat.reduceAdd, Nat.reduceLeDiff, he, List.set_cons_succ]; (first | done | rfl)); (first | refine wcd_T ?_ | refine wcd_F ?_)
    | refine w_skip ?_ | refine w_exit ?_ | refine w_ret ?_
    | fail
    )
      exact ⟨by first | exact .inr rfl | exact .inr trivial | exact .inl rfl, by simp only [go_sem, Nat.reduceEqDiff, Nat.reduceAdd, Nat.reduceLeDiff, retOf, resOf, fls, List.map_nil, hfe]; first | done | rfl⟩
    | false =>
      have hk : o.k = 1 ∨ (hasF l o.n = true ∧ (o.k = 2 ∨ o.k = 3 ∨ o.k = 4)) := by
        simp only [Bool.or_eq_false_iff, decide_eq_false_iff_not] at hb2
        by_cases h1 : o.k = 1
        · exact .inl h1
        · refine .inr ⟨?_, by omega⟩
          cases h : hasF l o.n with
          | true => rfl
          | false => rw [h] at he; simp at he; exact absurd he h1
      (repeat' first
    | refine w_seq ?_ | refine w_rg ?_ | refine wo_nil ?_ | refine g_skU ?_ | refine g_skT ?_ | refine g_skF ?_
    | ((first | apply s_plain | apply s_void | apply s_guard | apply g_goT | apply g_goF); · simp only [go_sem, Nat.reduceEqDiff, Nat.reduceAdd, Nat.reduceLeDiff, he, List.set_cons_succ]; (first | done | rfl))
    | ((first | apply g_T | apply g_F | apply g_gT | apply g_gF); · intro q1_; (first | intro q2_ | have q2_ := q1_); simp only [go_sem, Nat.reduceEqDiff, Nat.reduceAdd, Nat.reduceLeDiff, he, List.set_cons_succ, q1_, q2_]; (first | done | rfl))
    | (apply w_condX; · simp only [go_sem, Nat.reduceEqDiff, Nat.reduceAdd, Nat.reduceLeDiff, he, List.set_cons_succ]; (first | done | rfl)); (first | refine wcd_T ?_ | refine wcd_F ?_)
    | refine w_skip ?_ | refine w_exit ?_ | refine w_ret ?_
    | fail
    )
      have k0 := ((Kp.refl (P := (2000000 ≤ ·)) Fresh.nil).new 2000002 ⟨1, [.agg [.sl (fls l)]], true, true⟩).new 2000003 ⟨3, [.agg [.sc (.int .i64 o.k), txt o.n, txt o.d]], true, true⟩
      have k1 := k0.new 2000004 ⟨1, [.agg [.em]], true, true⟩
      obtain ⟨q, σ1, h1, h2, h3⟩ := e_clone (s := 60) J (l := l) (by omega) (by decide) k1.f
      refine s_plain (v := q) (σ' := σ1) (by simp only [go_sem, Nat.reduceEqDiff, Nat.reduceAdd, Nat.reduceLeDiff]; exact h1) ?_
      obtain ⟨q2, σ2, h4, h5, h6⟩ := a267 J D O G G2 h2 hs hl hsm ho h3.f hk
      unfold opV at h4
      refine s_plain (v := .tu [q2, .sc (.bool (roomF l o))]) (σ' := σ2) (by simp only [go_sem, Nat.reduceEqDiff, Nat.reduceAdd, Nat.reduceLeDiff]; exact h4) ?_
      have k4 := k1.trans (h3.trans h6)
      have hm4 : σ2.m 2000004 0 = some ⟨1, [.agg [.em]], true, true⟩ := by
        have hlt : 0 < σ1.c 2000004 := Nat.lt_of_lt_of_le (show 0 < (((St.nil.new 2000002 ⟨1, [.agg [.sl (fls l)]], true, true⟩).new 2000003 ⟨3, [.agg [.sc (.int .i64 o.k), txt o.n, txt o.d]], true, true⟩).new 2000004 ⟨1, [.agg [.em]], true, true⟩).c 2000004 by simp [new_c, nil_c]) (h3.c _)
        rw [h6.m 2000004 0 (by decide) hlt, h3.m 2000004 0 (by decide) (by simp [new_c, nil_c])]
        simp only [go_sem, Nat.reduceEqDiff, Nat.reduceAdd, Nat.reduceLeDiff]
      obtain ⟨ok1, ok2⟩ := h5.ok
      cases hr : roomF l o with
      | true =>
        have hd2 : doS l o = (doneF l o, 0) := by unfold doS; rw [hb, he, if_neg (by decide), if_neg (by decide), hr, if_pos rfl]
        rw [hd2]
        have hfz : ∀ y, fz (σ2.put 2000004 0 y) 10 q2 = some (.sl (fls (doneF l o))) := fun y => (h5.put (by decide) y).fz (fls_fz _ 7 _)
        (repeat' first
    | refine w_seq ?_ | refine w_rg ?_ | refine wo_nil ?_ | refine g_skU ?_ | refine g_skT ?_ | refine g_skF ?_
    | ((first | apply s_plain | apply s_void | apply s_guard | apply g_goT | apply g_goF); · simp only [go_sem, Nat.reduceEqDiff, Nat.reduceAdd, Nat.reduceLeDiff, hm4, ok1, ok2]; (first | done | rfl))
    | ((first | apply g_T | apply g_F | apply g_gT | apply g_gF); · intro q1_; (first | intro q2_ | have q2_ := q1_); simp only [go_sem, Nat.reduceEqDiff, Nat.reduceAdd, Nat.reduceLeDiff, hm4, ok1, ok2, q1_, q2_]; (first | done | rfl))
    | (apply w_condX; · simp only [go_sem, Nat.reduceEqDiff, Nat.reduceAdd, Nat.reduceLeDiff, hm4, ok1, ok2]; (first | done | rfl)); (first | refine wcd_T ?_ | refine wcd_F ?_)
    | refine w_skip ?_ | refine w_exit ?_ | refine w_ret ?_
    | fail
    )
        exact ⟨by first | exact .inr rfl | exact .inr trivial | exact .inl rfl, by simp only [go_sem, Nat.reduceEqDiff, Nat.reduceAdd, Nat.reduceLeDiff, retOf, resOf, hm4, ok1, ok2, hfz]; first | done | rfl⟩
      | false =>
        have hd2 : doS l o = ([], 13) := by unfold doS; rw [hb, he, if_neg (by decide), if_neg (by decide), hr, if_neg (by decide)]
        rw [hd2]
        (repeat' first
    | refine w_seq ?_ | refine w_rg ?_ | refine wo_nil ?_ | refine g_skU ?_ | refine g_skT ?_ | refine g_skF ?_
    | ((first | apply s_plain | apply s_void | apply s_guard | apply g_goT | apply g_goF); · simp only [go_sem, Nat.reduceEqDiff, Nat.reduceAdd, Nat.reduceLeDiff, hm4, ok1, ok2]; (first | done | rfl))
    | ((first | apply g_T | apply g_F | apply g_gT | apply g_gF); · intro q1_; (first | intro q2_ | have q2_ := q1_); simp only [go_sem, Nat.reduceEqDiff, Nat.reduceAdd, Nat.reduceLeDiff, hm4, ok1, ok2, q1_, q2_]; (first | done | rfl))
    | (apply w_condX; · simp only [go_sem, Nat.reduceEqDiff, Nat.reduceAdd, Nat.reduceLeDiff, hm4, ok1, ok2]; (first | done | rfl)); (first | refine wcd_T ?_ | refine wcd_F ?_)
    | refine w_skip ?_ | refine w_exit ?_ | refine w_ret ?_
    | fail
    )
        exact ⟨by first | exact .inr rfl | exact .inr trivial | exact .inl rfl, by simp only [go_sem, Nat.reduceEqDiff, Nat.reduceAdd, Nat.reduceLeDiff, retOf, resOf, hm4, fls, List.map_nil, hfe]; first | done | rfl⟩
theorem a259 (A : Has law env) (A2 : Has lda env) (B : Has ldb env) (C : Has ldc env) (E : Has ljc env) (F : Has lje env) (D : Has ljd env) (O : Has ljb env) (H : Has ljh env)
    {l : List Fl} (hl : l.length ≤ 900) (hsm : ∀ f ∈ l, f.Sm) (n : List UInt8) : AV env 259 [.agg [.sl (fls l)], txt n] = some (.tu [txt (readS l n).1, .sc (.int .i64 (readS l n).2)]) := by
  have h257 := a257 A A2 B C E F (l := l) (by omega) hsm
  have hln := fls_len l
  refine AV_wp (H (259, d259) (by simp [ljh])) rfl ?_
  cases hR : rightS l with
  | false =>
    have hr : readS l n = ([], 1) := by unfold readS; rw [hR]; rfl
    rw [hr]
    rw [hR] at h257
    (repeat' first
    | refine w_seq ?_ | refine w_rg ?_ | refine wo_nil ?_ | refine g_skU ?_ | refine g_skT ?_ | refine g_skF ?_
    | ((first | apply s_plain | apply s_void | apply s_guard | apply g_goT | apply g_goF); · simp only [go_sem, Nat.reduceEqDiff, Nat.reduceAdd, Nat.reduceLeDiff, h257, List.set_cons_succ]; (first | done | rfl))
    | ((first | apply g_T | apply g_F | apply g_gT | apply g_gF); · intro q1_; (first | intro q2_ | have q2_ := q1_); simp only [go_sem, Nat.reduceEqDiff, Nat.reduceAdd, Nat.reduceLeDiff, h257, List.set_cons_succ, q1_, q2_]; (first | done | rfl))
    | (apply w_condX; · simp only [go_sem, Nat.reduceEqDiff, Nat.reduceAdd, Nat.reduceLeDiff, h257, List.set_cons_succ]; (first | done | rfl)); (first | refine wcd_T ?_ | refine wcd_F ?_)
    | refine w_skip ?_ | refine w_exit ?_ | refine w_ret ?_
    | fail
    )
    exact ⟨by first | exact .inr rfl | exact .inr trivial | exact .inl rfl, by simp only [go_sem, Nat.reduceEqDiff, Nat.reduceAdd, Nat.reduceLeDiff, retOf, resOf]; first | done | rfl⟩
  | true =>
    obtain ⟨hs, hf, hl16⟩ := rightS_iff.1 hR
    have h266 := a266 D O hs (by omega) n
    rw [hR] at h257
    cases hh : hasF l n with
    | false =>
      rw [hh] at h266
      have hr : readS l n = ([], 9) := by
        unfold hasF at hh
        unfold readS
        rw [hR, show getF l n = none by simpa using hh]; rfl
      rw [hr]
      (repeat' first
    | refine w_seq ?_ | refine w_rg ?_ | refine wo_nil ?_ | refine g_skU ?_ | refine g_skT ?_ | refine g_skF ?_
    | ((first | apply s_plain | apply s_void | apply s_guard | apply g_goT | apply g_goF); · simp only [go_sem, Nat.reduceEqDiff, Nat.reduceAdd, Nat.reduceLeDiff, h257, h266, List.set_cons_succ]; (first | done | rfl))
    | ((first | apply g_T | apply g_F | apply g_gT | apply g_gF); · intro q1_; (first | intro q2_ | have q2_ := q1_); simp only [go_sem, Nat.reduceEqDiff, Nat.reduceAdd, Nat.reduceLeDiff, h257, h266, List.set_cons_succ, q1_, q2_]; (first | done | rfl))
    | (apply w_condX; · simp only [go_sem, Nat.reduceEqDiff, Nat.reduceAdd, Nat.reduceLeDiff, h257, h266, List.set_cons_succ]; (first | done | rfl)); (first | refine wcd_T ?_ | refine wcd_F ?_)
    | refine w_skip ?_ | refine w_exit ?_ | refine w_ret ?_
    | fail
    )
      exact ⟨by first | exact .inr rfl | exact .inr trivial | exact .inl rfl, by simp only [go_sem, Nat.reduceEqDiff, Nat.reduceAdd, Nat.reduceLeDiff, retOf, resOf]; first | done | rfl⟩
    | true =>
      rw [hh] at h266
      obtain ⟨f, q1, q2, q3⟩ := pos_at hs hh
      have hlt := (List.getElem?_eq_some_iff.1 q1).1
      have hy := fls_at q1
      unfold fl at hy
      have e1 : (0 : Int) ≤ ((posF l n : Nat) : Int) ∧ ((posF l n : Nat) : Int) < (l.length : Int) := by omega
      have hfs := hsm f (List.mem_of_getElem? q1)
      have c1 : f.s.length + f.t.length ≤ 9223372036854775807 := by have := hfs.s; have := hfs.t; omega
      have hr : readS l n = (f.s ++ f.t, 0) := by unfold readS; rw [hR, q3]; rfl
      rw [hr]
      (repeat' first
    | refine w_seq ?_ | refine w_rg ?_ | refine wo_nil ?_ | refine g_skU ?_ | refine g_skT ?_ | refine g_skF ?_
    | ((first | apply s_plain | apply s_void | apply s_guard | apply g_goT | apply g_goF); · simp only [go_sem, Nat.reduceEqDiff, Nat.reduceAdd, Nat.reduceLeDiff, h257, h266, List.set_cons_succ, hln, e1, Int.toNat_natCast, hy, List.size_toArray, c1]; (first | done | rfl))
    | ((first | apply g_T | apply g_F | apply g_gT | apply g_gF); · intro q1_; (first | intro q2_ | have q2_ := q1_); simp only [go_sem, Nat.reduceEqDiff, Nat.reduceAdd, Nat.reduceLeDiff, h257, h266, List.set_cons_succ, hln, e1, Int.toNat_natCast, hy, List.size_toArray, c1, q1_, q2_]; (first | done | rfl))
    | (apply w_condX; · simp only [go_sem, Nat.reduceEqDiff, Nat.reduceAdd, Nat.reduceLeDiff, h257, h266, List.set_cons_succ, hln, e1, Int.toNat_natCast, hy, List.size_toArray, c1]; (first | done | rfl)); (first | refine wcd_T ?_ | refine wcd_F ?_)
    | refine w_skip ?_ | refine w_exit ?_ | refine w_ret ?_
    | fail
    )
      exact ⟨by first | exact .inr rfl | exact .inr trivial | exact .inl rfl, by simp only [go_sem, Nat.reduceEqDiff, Nat.reduceAdd, Nat.reduceLeDiff, retOf, resOf]; first | done | rfl⟩
end

end
section
/-! A store that holds one file, the log -/
def logN : List UInt8 := [108, 111, 103]
def logF (S T : List UInt8) : List Fl := [⟨logN, S, T⟩]
theorem logN_word : wordD logN = true := by decide +kernel
theorem log_right {S T : List UInt8} (h : S.length + T.length ≤ 16384) : rightS (logF S T) = true :=
  rightS_iff.2 ⟨List.pairwise_singleton _ _, fun f hf => by simp only [logF, List.mem_singleton] at hf; subst hf; exact ⟨logN_word, h⟩, by simp [logF]⟩
theorem log_get (S T : List UInt8) : getF (logF S T) logN = some ⟨logN, S, T⟩ := rfl
theorem log_has (S T : List UInt8) : hasF (logF S T) logN = true := rfl
theorem do_w0 {r : List UInt8} (h : r.length ≤ 16384) : doS [] ⟨1, logN, r⟩ = (logF [] r, 0) := by
  have h1 : badO [] ⟨1, logN, r⟩ = false := by
    unfold badO
    rw [show rightS [] = true from rfl, logN_word]; rfl
  have h2 : doneF [] ⟨1, logN, r⟩ = logF [] r := rfl
  have h3 : roomF [] ⟨1, logN, r⟩ = true := by
    unfold roomF
    rw [h2]
    have : (newF [] ⟨1, logN, r⟩) = ⟨logN, [], r⟩ := rfl
    rw [this]
    simp [logF, h]
  unfold doS
  rw [h1, h2, h3]; rfl
theorem do_w1 {S T r : List UInt8} (h : S.length + T.length + r.length ≤ 16384) : doS (logF S T) ⟨1, logN, r⟩ = (logF S (T ++ r), 0) := by
  have h1 : badO (logF S T) ⟨1, logN, r⟩ = false := by
    unfold badO
    rw [log_right (by omega), logN_word]; rfl
  have h2 : doneF (logF S T) ⟨1, logN, r⟩ = logF S (T ++ r) := rfl
  have h3 : roomF (logF S T) ⟨1, logN, r⟩ = true := by
    unfold roomF
    rw [h2]
    have : (newF (logF S T) ⟨1, logN, r⟩) = ⟨logN, S, T ++ r⟩ := rfl
    rw [this]
    simp [logF]
    omega
  unfold doS
  rw [h1, h2, h3, log_has]; rfl
theorem do_s {S T : List UInt8} (h : S.length + T.length ≤ 16384) : doS (logF S T) ⟨2, logN, []⟩ = (logF (S ++ T) [], 0) := by
  have h1 : badO (logF S T) ⟨2, logN, []⟩ = false := by
    unfold badO
    rw [log_right (by omega), logN_word]; rfl
  have h2 : doneF (logF S T) ⟨2, logN, []⟩ = logF (S ++ T) [] := rfl
  have h3 : roomF (logF S T) ⟨2, logN, []⟩ = true := by
    unfold roomF
    rw [h2]
    have : (newF (logF S T) ⟨2, logN, []⟩) = ⟨logN, S ++ T, []⟩ := rfl
    rw [this]
    simp [logF]
    omega
  unfold doS
  rw [h1, h2, h3, log_has]; rfl
theorem read_1 {S T : List UInt8} (h : S.length + T.length ≤ 16384) : readS (logF S T) logN = (S ++ T, 0) := by
  unfold readS
  rw [log_right h, log_get]; rfl
/-! Records of few bytes -/
theorem encN_1 {n : Nat} (h : n < 128) : encN n = [UInt8.ofNat n] := by
  rw [encN, dif_pos h]
theorem recB_l1 {d : List UInt8} (h : d.length ≤ 100) : (recB d).length = d.length + 5 := by
  unfold recB
  rw [encN_1 (by omega)]
  simp only [List.length_append, List.length_singleton, chkB_len]
  omega
theorem headN_1 {n : Nat} (h : n < 128) (t : List UInt8) : headN (UInt8.ofNat n :: t) = (n, 1, 0) := by
  unfold headN
  rw [rdN]
  have := @ofNat_small n (by omega)
  simp only [this]
  rw [if_neg (by decide), if_neg (by omega), if_neg (by omega)]
  rw [Nat.mod_eq_of_lt h]
  simp
theorem scan_nil : scanS [] = [] := rfl
theorem scan_cons {d t : List UInt8} (h : d.length ≤ 100) : scanS (recB d ++ t) = d :: scanS t := by
  have hl := recB_l1 h
  have hr : recB d = UInt8.ofNat d.length :: (d ++ chkB d) := by unfold recB; rw [encN_1 (by omega)]; simp
  have hh : headN (recB d ++ t) = (d.length, 1, 0) := by rw [hr]; exact headN_1 (by omega) _
  unfold scanS
  have hs : (recB d ++ t).length = (d.length + 4 + t.length) + 1 := by rw [List.length_append, hl]; omega
  rw [hs, scanF, if_neg (by rw [hr]; simp), hh]
  simp only
  have e1 : (recB d ++ t).drop 1 = d ++ (chkB d ++ t) := by rw [hr]; simp
  have e2 : (recB d ++ t).drop (1 + d.length) = chkB d ++ t := by rw [← List.drop_drop, e1, List.drop_left]
  have e3 : (recB d ++ t).drop (1 + d.length + 4) = t := by
    rw [← List.drop_drop, e2]
    exact List.drop_left' (chkB_len d)
  rw [if_neg (by rw [hs]; omega), e1, e2, e3, List.take_left, List.take_left' (chkB_len d), if_neg (by simp)]
  rw [scanF_more _ t.length t (by omega) (Nat.le_refl _)]
theorem scan_short {d t : List UInt8} {m : Nat} (h : d.length ≤ 100) (hm : m < d.length + 5) : scanS ((recB d ++ t).take m) = [] := by
  have hl := recB_l1 h
  have hr : recB d = UInt8.ofNat d.length :: (d ++ chkB d) := by unfold recB; rw [encN_1 (by omega)]; simp
  cases m with
  | zero => rfl
  | succ k =>
    have e : (recB d ++ t).take (k + 1) = UInt8.ofNat d.length :: (d ++ chkB d ++ t).take k := by rw [hr]; simp
    rw [e]
    have hq : ((d ++ chkB d ++ t).take k).length ≤ k := by rw [List.length_take]; omega
    unfold scanS
    rw [List.length_cons, scanF, if_neg (by simp), headN_1 (by omega)]
    simp only
    rw [if_pos (.inr (.inr (by rw [List.length_cons]; omega)))]
theorem scan_app : ∀ {l : List (List UInt8)} (t : List UInt8), (∀ d ∈ l, d.length ≤ 100) → scanS (l.flatMap recB ++ t) = l ++ scanS t
  | [], t, _ => rfl
  | d :: r, t, h => by
    rw [List.flatMap_cons, List.append_assoc, scan_cons (h d (by simp)), scan_app t (fun x hx => h x (by simp [hx]))]
    rfl
theorem scan_all {l : List (List UInt8)} (h : ∀ d ∈ l, d.length ≤ 100) : scanS (l.flatMap recB) = l := by
  have := scan_app [] h
  rw [List.append_nil, scan_nil, List.append_nil] at this
  exact this
theorem scan_take : ∀ (l : List (List UInt8)) (m : Nat), (∀ d ∈ l, d.length ≤ 100) → ∃ j, j ≤ l.length ∧ scanS ((l.flatMap recB).take m) = l.take j ∧ ∀ k, k ≤ l.length → ((l.take k).flatMap recB).length ≤ m → k ≤ j
  | [], m, _ => ⟨0, Nat.le_refl _, by simp [scan_nil], fun k hk _ => by simpa using hk⟩
  | d :: r, m, h => by
    have hd := h d (by simp)
    have hl := recB_l1 hd
    by_cases hm : m < d.length + 5
    · refine ⟨0, Nat.zero_le _, by rw [List.flatMap_cons, scan_short hd hm]; rfl, fun k hk hq => ?_⟩
      cases k with
      | zero => exact Nat.le_refl _
      | succ k =>
        rw [List.take_succ_cons, List.flatMap_cons, List.length_append, hl] at hq
        omega
    · obtain ⟨j, h1, h2, h3⟩ := scan_take r (m - (d.length + 5)) fun x hx => h x (by simp [hx])
      refine ⟨j + 1, by simp only [List.length_cons]; omega, ?_, fun k hk hq => ?_⟩
      · rw [List.flatMap_cons, List.take_append, List.take_of_length_le (by omega), scan_cons hd, hl, h2, List.take_succ_cons]
      · cases k with
        | zero => exact Nat.zero_le _
        | succ k =>
          rw [List.take_succ_cons, List.flatMap_cons, List.length_append, hl] at hq
          rw [List.length_cons] at hk
          have := h3 k (by omega) (by omega)
          omega
theorem scan_more {s : List UInt8} (h : ∀ d ∈ scanS s, d.length ≤ 100) (t : List UInt8) : ∃ q, scanS (s ++ t) = scanS s ++ q := by
  obtain ⟨u, hu⟩ := scanF_pre s.length s
  refine ⟨scanS (u ++ t), ?_⟩
  have := scan_app (l := scanS s) (u ++ t) h
  rw [← this, ← List.append_assoc]
  rw [show List.flatMap recB (scanS s) ++ u = s from hu.symm]
/-! The log behind some records -/
def logB (l : List (List UInt8)) (k : Nat) : List Fl := if l = [] then [] else logF ((l.take k).flatMap recB) ((l.drop k).flatMap recB)
theorem recs_len : ∀ (l : List (List UInt8)), (∀ d ∈ l, d.length ≤ 100) → (l.flatMap recB).length ≤ 105 * l.length
  | [], _ => Nat.le_refl _
  | d :: r, h => by
    have := recs_len r fun x hx => h x (by simp [hx])
    have := recB_l1 (h d (by simp))
    have := h d (by simp)
    rw [List.flatMap_cons, List.length_append, List.length_cons]
    omega
theorem take_drop_recs (l : List (List UInt8)) (k : Nat) : (l.take k).flatMap recB ++ (l.drop k).flatMap recB = l.flatMap recB := by
  rw [← List.flatMap_append, List.take_append_drop]
theorem logB_w {l : List (List UInt8)} {k : Nat} {d : List UInt8} (hl : l.length ≤ 12) (h : ∀ x ∈ l, x.length ≤ 100) (hd : d.length ≤ 100) (hk : k ≤ l.length) : doS (logB l k) ⟨1, logN, recB d⟩ = (logB (l ++ [d]) k, 0) := by
  have h1 := recs_len l h
  have h2 := recB_l1 hd
  have hsum := congrArg List.length (take_drop_recs l k)
  rw [List.length_append] at hsum
  unfold logB
  rw [if_neg (show l ++ [d] ≠ [] by simp), List.take_append_of_le_length hk, List.drop_append_of_le_length hk, List.flatMap_append, show [d].flatMap recB = recB d by simp]
  by_cases h0 : l = []
  · subst h0
    rw [if_pos rfl, do_w0 (by omega)]
    simp
  · rw [if_neg h0, do_w1 (by omega)]
theorem logB_s {l : List (List UInt8)} {k : Nat} (hl : l.length ≤ 12) (h : ∀ x ∈ l, x.length ≤ 100) (h0 : l ≠ []) : doS (logB l k) ⟨2, logN, []⟩ = (logB l l.length, 0) := by
  have h1 := recs_len l h
  have hsum := congrArg List.length (take_drop_recs l k)
  rw [List.length_append] at hsum
  unfold logB
  rw [if_neg h0, if_neg h0, do_s (by omega), take_drop_recs, List.take_length, List.drop_length]
  rfl
theorem logB_r {l : List (List UInt8)} {k : Nat} (hl : l.length ≤ 12) (h : ∀ x ∈ l, x.length ≤ 100) : (readS (logB l k) logN).1 = l.flatMap recB := by
  have h1 := recs_len l h
  have hsum := congrArg List.length (take_drop_recs l k)
  rw [List.length_append] at hsum
  unfold logB
  by_cases h0 : l = []
  · subst h0; rfl
  · rw [if_neg h0, read_1 (by omega), take_drop_recs]
/-! A crash -/
def keepN (f : Fl) (ks : List Int) (i : Nat) : Nat := if i < ks.length then min (max (ks.getD i 0) 0).toNat f.t.length else 0
def crF (ks : List Int) (i : Nat) (f : Fl) : Fl := ⟨f.n, f.s ++ f.t.take (keepN f ks i), []⟩
def crashF (l : List Fl) (ks : List Int) : List Fl := l.mapIdx (crF ks)
def crashS (l : List Fl) (ks : List Int) : List Fl × Int := if rightS l then (crashF l ks, 0) else ([], 1)
theorem logB_c {l : List (List UInt8)} {k : Nat} {n : Int} (hl : l.length ≤ 12) (h : ∀ x ∈ l, x.length ≤ 100) (hk : k ≤ l.length) : ∃ y m, crashS (logB l k) [n] = (y, 0) ∧ (y.length ≤ 1 ∧ ∀ f ∈ y, f.Sm) ∧ (readS y logN).1 = (l.flatMap recB).take m ∧ ((l.take k).flatMap recB).length ≤ m := by
  have h1 := recs_len l h
  have hsum := congrArg List.length (take_drop_recs l k)
  rw [List.length_append] at hsum
  unfold logB
  by_cases h0 : l = []
  · subst h0
    exact ⟨[], 0, rfl, ⟨by simp, by simp⟩, rfl, by simp⟩
  · rw [if_neg h0]
    generalize hS : (l.take k).flatMap recB = S at hsum
    generalize hT : (l.drop k).flatMap recB = T at hsum
    have hST : S ++ T = l.flatMap recB := by rw [← hS, ← hT]; exact take_drop_recs l k
    have hkl : keepN ⟨logN, S, T⟩ [n] 0 ≤ T.length := by unfold keepN; split <;> simp <;> omega
    have hc : crashS (logF S T) [n] = (logF (S ++ T.take (keepN ⟨logN, S, T⟩ [n] 0)) [], 0) := by
      unfold crashS
      rw [log_right (by omega)]; rfl
    generalize keepN ⟨logN, S, T⟩ [n] 0 = j at hc hkl
    have htl : (T.take j).length = j := by rw [List.length_take]; omega
    refine ⟨_, S.length + j, hc, ⟨by simp [logF], fun f hf => ?_⟩, ?_, by omega⟩
    · simp only [logF, List.mem_singleton] at hf
      subst hf
      exact ⟨show (3 : Nat) ≤ _ by decide, by simp only [List.length_append]; omega, by simp⟩
    · rw [read_1 (by simp only [List.length_append, List.length_nil]; omega), List.append_nil, ← hST, List.take_append, List.take_of_length_le (l := S) (by omega), Nat.add_sub_cancel_left]
theorem tears {l : List (List UInt8)} {k m : Nat} (b : List UInt8) (h : ∀ x ∈ l, x.length ≤ 100) (hk : k ≤ l.length) (hm : ((l.take k).flatMap recB).length ≤ m) : ∃ j q, k ≤ j ∧ j ≤ l.length ∧ scanS ((l.flatMap recB).take m) = l.take j ∧ scanS ((l.flatMap recB).take m ++ b) = l.take j ++ q := by
  obtain ⟨j, h1, h2, h3⟩ := scan_take l m h
  obtain ⟨q, hq⟩ := scan_more (s := (l.flatMap recB).take m) (fun d hd => by rw [h2] at hd; exact h d (List.mem_of_mem_take hd)) b
  exact ⟨j, q, h3 k hk hm, h1, h2, by rw [hq, h2]⟩

end
section
attribute [local go_sem ↓] e_mv e_pick e_bin e_eqs e_beq e_un e_cvi e_str e_s2b e_b2s e_box e_build e_bsl e_ld e_st e_nck e_mkf e_slcS e_slcL e_fa e_fld e_ia e_iaa e_ix e_ixa e_ext e_lenS e_lenL e_mnmx e_app e_appb e_bbx e_msl e_clr e_call e_callv e_icall e_slcA e_mkm e_mput e_mget e_mlen e_mdel pa_t pa_c pa_f slcSP_str hiOf_some hiOf_none loOf_some loOf_none set_eq set_ne
attribute [local go_sem] pv pv1 simple frOf_0 frOf_1 frOf_2 frOf_3 frOf_4 frOf_5 ne_eq not_false_eq_true if_true Bool.false_eq_true if_false pbin punary Option.map_some Option.bind_some pick_and pick_or opt_true Bool.true_and Bool.and_self Bool.and_true Bool.true_or Bool.false_or Bool.not_true Bool.not_false callE pcall_eq List.map_cons List.map_nil List.append_nil List.nil_append List.cons_append mapM_cons' mapM_nil' dep_eq fz_sc fz_sl fz_em fz_fn fz_fp fz_agg fz_tu fz_bx fz_ob Nat.lt_irrefl Nat.zero_lt_one Nat.lt_add_one flat clL cl Bool.or_true okc_sc okc_em okc_sl okc_ob okc_bx okc_fp okc_fn okc_agg okc_ifc cells_agg cells_sc cells_sl cells_em cells_ob cells_fn cells_bx cells_fp List.length_cons List.length_nil Nat.zero_add and_self true_and and_true new_m new_c put_m put_c nil_m nil_c nil_mm new_mm put_mm newM_m newM_c newM_mm putM_m putM_c putM_mm mkeyV_1 mkeyV_2 mapAt_eq deref List.getElem?_cons_zero List.getElem?_cons_succ List.drop_zero List.drop_succ_cons List.take_succ_cons List.take_zero Nat.le_refl false_and and_false decide_true decide_false lenP_em lenP_nil lenP_sl lenP_ob Int.ofNat_zero splice fillP fillE List.modify_zero_cons List.replicate_succ List.replicate_zero List.set_cons_zero List.drop_zero ba_data ba_size ba_toList ba_extract ba_append List.toList_toArray
def d282 : Def := (.code 1 [] (.seq (.rg false [⟨.some 2, .none, .ld .none (.t 0)⟩, ⟨.some 3, .none, .bin .and (.t 2) (.c (.int .u32 1))⟩, ⟨.some 1, .none, .mv (.t 3)⟩]) (.seq (.rg false [⟨.some 4, .none, .ld .none (.t 0)⟩, ⟨.some 5, .none, .bin .shr (.t 4) (.c (.int .u64 1))⟩, ⟨.none, .none, .st 1 (.t 0) (.t 5)⟩]) (.seq (.rg false [⟨.some 6, .none, .mv (.t 1)⟩, ⟨.some 7, .none, .bin .eql (.t 6) (.c (.int .u32 1))⟩]) (.cond (.t 7) (.rg false [⟨.some 8, .none, .ld .none (.t 0)⟩, ⟨.some 9, .none, .bin .xor (.t 8) (.c (.int .u32 3988292384))⟩, ⟨.none, .none, .st 1 (.t 0) (.t 9)⟩]) .skip)))))
def d279 : Def := (.code 1 [.tmp 2] (.seq (.rg false [⟨.some 2, .none, .mv (.c (.int .u32 0))⟩]) (.seq (.rg false [⟨.some 3, .none, .box (.c (.int .u32 0))⟩, ⟨.none, .none, .st 1 (.t 3) (.c (.int .u32 4294967295))⟩]) (.seq (.rg false [⟨.some 6, .none, .mkf 282 [] [.t 3]⟩, ⟨.some 4, .none, .mv (.t 6)⟩]) (.seq (.seq (.rg false [⟨.some 7, .none, .mv (.t 0)⟩, ⟨.some 8, .none, .lenS (.t 7)⟩, ⟨.some 9, .none, .mv (.c (.int .i64 0))⟩]) (.block 0 (.loop (.seq (.rg false [⟨.some 10, .none, .bin .lss (.t 9) (.t 8)⟩]) (.seq (.cond (.t 10) .skip (.exit 0)) (.seq (.block 1 (.seq (.rg false [⟨.some 11, .none, .mv (.t 9)⟩, ⟨.some 5, .none, .mv (.t 11)⟩]) (.seq (.rg true [⟨.some 12, .none, .ld .none (.t 3)⟩, ⟨.some 13, .none, .mv (.t 0)⟩, ⟨.some 14, .none, .mv (.t 5)⟩, ⟨.some 15, .none, .ix (.t 13) (.t 14)⟩, ⟨.some 16, .none, .cvi .u32 (.t 15)⟩, ⟨.some 17, .none, .bin .xor (.t 12) (.t 16)⟩, ⟨.none, .none, .st 1 (.t 3) (.t 17)⟩]) (.seq (.rg false [⟨.some 18, .none, .mv (.c (.int .i64 0))⟩]) (.block 2 (.loop (.seq (.rg false [⟨.some 19, .none, .bin .lss (.t 18) (.c (.int .i64 8))⟩]) (.seq (.cond (.t 19) .skip (.exit 2)) (.seq (.block 3 (.rg false [⟨.some 20, .none, .mv (.t 4)⟩, ⟨.some 21, .none, .callv (.t 20) .opn []⟩])) (.rg false [⟨.some 22, .none, .bin .add (.t 18) (.c (.int .i64 1))⟩, ⟨.some 18, .none, .mv (.t 22)⟩])))))))))) (.rg false [⟨.some 23, .none, .bin .add (.t 9) (.c (.int .i64 1))⟩, ⟨.some 9, .none, .mv (.t 23)⟩]))))))) (.seq (.rg false [⟨.some 24, .none, .ld .none (.t 3)⟩, ⟨.some 25, .none, .bin .xor (.t 24) (.c (.int .u32 4294967295))⟩, ⟨.some 2, .none, .mv (.t 25)⟩]) .ret))))))
def d270 : Def := (.code 1 [.tmp 2] (.seq (.rg false [⟨.some 2, .none, .mv (.c (.string ⟨#[]⟩))⟩]) (.seq (.rg false [⟨.some 4, .none, .mv (.t 0)⟩, ⟨.some 5, .none, .call 279 .pure [.t 4]⟩, ⟨.some 3, .none, .mv (.t 5)⟩]) (.seq (.rg false [⟨.some 6, .none, .mv (.t 3)⟩, ⟨.some 7, .none, .cvi .u8 (.t 6)⟩, ⟨.some 8, .none, .mv (.t 3)⟩, ⟨.some 9, .none, .bin .shr (.t 8) (.c (.int .u64 8))⟩, ⟨.some 10, .none, .cvi .u8 (.t 9)⟩, ⟨.some 11, .none, .mv (.t 3)⟩, ⟨.some 12, .none, .bin .shr (.t 11) (.c (.int .u64 16))⟩, ⟨.some 13, .none, .cvi .u8 (.t 12)⟩, ⟨.some 14, .none, .mv (.t 3)⟩, ⟨.some 15, .none, .bin .shr (.t 14) (.c (.int .u64 24))⟩, ⟨.some 16, .none, .cvi .u8 (.t 15)⟩, ⟨.some 17, .none, .bsl 1 (.int .u8 0) 4 [(0, .t 7), (1, .t 10), (2, .t 13), (3, .t 16)]⟩, ⟨.some 18, .none, .b2s (.t 17)⟩, ⟨.some 2, .none, .mv (.t 18)⟩]) .ret))))
def lib : List (Nat × Def) := [(282, d282), (279, d279), (270, d270)]
theorem bv32 {a : Nat} (h : a < 4294967296) : (BitVec.ofInt IntKind.u32.bits (a : Int)).toNat = a := by
  show (BitVec.ofInt 32 (a : Int)).toNat = a
  rw [BitVec.toNat_ofInt]
  omega
theorem xor32 {a b : Nat} (ha : a < 4294967296) (hb : b < 4294967296) : IntKind.u32.wrap ((BitVec.ofInt IntKind.u32.bits (a : Int) ^^^ BitVec.ofInt IntKind.u32.bits (b : Int)).toNat : Int) = ((a ^^^ b : Nat) : Int) := by
  have h : a ^^^ b < 4294967296 := Nat.xor_lt_two_pow (n := 32) ha hb
  rw [BitVec.toNat_xor, bv32 ha, bv32 hb, IntKind.wrap_u32]
  omega
theorem and32 {a : Nat} (ha : a < 4294967296) : IntKind.u32.wrap ((BitVec.ofInt IntKind.u32.bits (a : Int) &&& BitVec.ofInt IntKind.u32.bits (1 : Int)).toNat : Int) = ((a % 2 : Nat) : Int) := by
  have e1 := bv32 (a := 1) (by decide)
  rw [BitVec.toNat_and, bv32 ha, show (BitVec.ofInt IntKind.u32.bits (1 : Int)).toNat = 1 from e1, Nat.and_one_is_mod, IntKind.wrap_u32]
  omega
theorem shr32 {a : Nat} (k : Nat) (hk : k < 32) : (a : Int).fdiv (2 ^ (min (k : Int).toNat IntKind.u32.bits)) = ((a / 2 ^ k : Nat) : Int) := by
  have e : min (k : Int).toNat IntKind.u32.bits = k := by
    show min (k : Int).toNat 32 = k
    omega
  rw [e, Int.fdiv_eq_ediv_of_nonneg _ (by exact Int.pow_nonneg (by decide))]
  simp
theorem tmod_nat (a b : Nat) {z : Int} (h : z = (b : Int)) : (a : Int).tmod z = ((a % b : Nat) : Int) := by rw [h]; exact (Int.ofNat_tmod a b).symm
theorem tdiv_nat (a b : Nat) {z : Int} (h : z = (b : Int)) : (a : Int).tdiv z = ((a / b : Nat) : Int) := by rw [h]; exact (Int.ofNat_tdiv a b).symm
theorem pb_xor {a b : Nat} {z : Int} (hz : z = (b : Int)) (ha : a < 4294967296) (hb : b < 4294967296) : pbin .xor (.int .u32 (a : Int)) (.int .u32 z) = some (.int .u32 ((a ^^^ b : Nat) : Int)) := by
  subst hz
  exact congrArg (fun n => some (Value.int .u32 n)) (xor32 ha hb)
theorem pb_and {a : Nat} (ha : a < 4294967296) : pbin .and (.int .u32 (a : Int)) (.int .u32 1) = some (.int .u32 ((a % 2 : Nat) : Int)) :=
  congrArg (fun n => some (Value.int .u32 n)) (and32 ha)
theorem pb_shr {a : Nat} (k : Nat) {z : Int} (hz : z = (k : Int)) (hk : k < 32) (ha : a < 4294967296) : pbin .shr (.int .u32 (a : Int)) (.int .u64 z) = some (.int .u32 ((a / 2 ^ k : Nat) : Int)) := by
  subst hz
  have h1 : ¬ ((k : Int) < 0) := by omega
  have h2 : a / 2 ^ k ≤ a := Nat.div_le_self _ _
  simp only [pbin, if_neg h1]
  rw [shr32 k hk]
theorem put_putI (σ : St) (o g : Nat) (x y : Option Obj) : (σ.put o g x).put o g y = σ.put o g y := by
  simp only [St.put]
  congr 1
  funext o' g'
  split <;> rfl
section
variable {env : Nat → Option Def} {fr : Fr} {σ σ' σ'' : St} {K : Fr → St → Prop} {Q : X → Fr → St → Prop} {p : PV} {bs : List UInt8}
theorem a282 (B : Has lib env) {o g c : Nat} (hc : c < 4294967296) (hm : σ.m o g = some ⟨1, [.sc (.int .u32 (c : Int))], true, true⟩) :
    EV env 282 [.bx o g 1 0 0] σ = some (.tu [], σ.put o g (some ⟨1, [.sc (.int .u32 ((stepC c : Nat) : Int))], true, true⟩)) := by
  have e1 := pb_and hc
  have e2 := pb_shr (a := c) 1 (z := 1) rfl (by decide) hc
  have e3 := pb_xor (a := c / 2 ^ 1) (b := 3988292384) (z := 3988292384) rfl (by omega) (by decide)
  refine EV_wp (B (282, d282) (by simp [lib])) rfl ?_
  by_cases hq : c % 2 = 1
  · have hd2 : ((((c % 2 : Nat) : Int)) == 1) = true := by simp [hq]
    (repeat' first
    | refine w_seq ?_ | refine w_rg ?_ | refine wo_nil ?_ | refine g_skU ?_ | refine g_skT ?_ | refine g_skF ?_
    | ((first | apply s_plain | apply s_void | apply s_guard | apply g_goT | apply g_goF); · simp only [go_sem, Nat.reduceEqDiff, Nat.reduceAdd, Nat.reduceLeDiff, hm, ↓e1, ↓e2, ↓e3, hd2]; (first | done | rfl))
    | ((first | apply g_T | apply g_F | apply g_gT | apply g_gF); · intro q1_; (first | intro q2_ | have q2_ := q1_); simp only [go_sem, Nat.reduceEqDiff, Nat.reduceAdd, Nat.reduceLeDiff, hm, ↓e1, ↓e2, ↓e3, hd2, q1_, q2_]; (first | done | rfl))
    | (apply w_condX; · simp only [go_sem, Nat.reduceEqDiff, Nat.reduceAdd, Nat.reduceLeDiff, hm, ↓e1, ↓e2, ↓e3, hd2]; (first | done | rfl)); (first | refine wcd_T ?_ | refine wcd_F ?_)
    | refine w_skip ?_ | refine w_exit ?_ | refine w_ret ?_
    | fail
    )
    exact ⟨.inl rfl, rfl, by simp only [go_sem, Nat.reduceEqDiff, Nat.reduceAdd, Nat.reduceLeDiff, put_putI, stepC, hq, Nat.pow_one]⟩
  · have hd2 : ((((c % 2 : Nat) : Int)) == 1) = false := by simp; omega
    (repeat' first
    | refine w_seq ?_ | refine w_rg ?_ | refine wo_nil ?_ | refine g_skU ?_ | refine g_skT ?_ | refine g_skF ?_
    | ((first | apply s_plain | apply s_void | apply s_guard | apply g_goT | apply g_goF); · simp only [go_sem, Nat.reduceEqDiff, Nat.reduceAdd, Nat.reduceLeDiff, hm, ↓e1, ↓e2, hd2]; (first | done | rfl))
    | ((first | apply g_T | apply g_F | apply g_gT | apply g_gF); · intro q1_; (first | intro q2_ | have q2_ := q1_); simp only [go_sem, Nat.reduceEqDiff, Nat.reduceAdd, Nat.reduceLeDiff, hm, ↓e1, ↓e2, hd2, q1_, q2_]; (first | done | rfl))
    | (apply w_condX; · simp only [go_sem, Nat.reduceEqDiff, Nat.reduceAdd, Nat.reduceLeDiff, hm, ↓e1, ↓e2, hd2]; (first | done | rfl)); (first | refine wcd_T ?_ | refine wcd_F ?_)
    | refine w_skip ?_ | refine w_exit ?_ | refine w_ret ?_
    | fail
    )
    exact ⟨.inl rfl, rfl, by simp only [go_sem, Nat.reduceEqDiff, Nat.reduceAdd, Nat.reduceLeDiff, put_putI, stepC, hq, Nat.pow_one]⟩
theorem a279 (B : Has lib env) {s : List UInt8} (hs : s.length ≤ 4000000000) : AV env 279 [txt s] = some (.sc (.int .u32 ((4294967295 - crcC s : Nat) : Int))) := by
  refine AV_wp (B (279, d279) (by simp [lib])) rfl ?_
  (repeat' first
    | refine w_seq ?_ | refine w_rg ?_ | refine wo_nil ?_ | refine g_skU ?_ | refine g_skT ?_ | refine g_skF ?_
    | ((first | apply s_plain | apply s_void | apply s_guard | apply g_goT | apply g_goF); · simp only [go_sem, Nat.reduceEqDiff, Nat.reduceAdd, Nat.reduceLeDiff]; (first | done | rfl))
    | ((first | apply g_T | apply g_F | apply g_gT | apply g_gF); · intro q1_; (first | intro q2_ | have q2_ := q1_); simp only [go_sem, Nat.reduceEqDiff, Nat.reduceAdd, Nat.reduceLeDiff, q1_, q2_]; (first | done | rfl))
    | (apply w_condX; · simp only [go_sem, Nat.reduceEqDiff, Nat.reduceAdd, Nat.reduceLeDiff]; (first | done | rfl)); (first | refine wcd_T ?_ | refine wcd_F ?_)
    | refine w_skip ?_ | refine w_exit ?_ | refine w_ret ?_
    | fail
    )
  refine w_block (w_rangeF s.length (by omega) (fun i fr σ => σ.m 2000003 0 = some ⟨1, [.sc (.int .u32 ((crcC (s.take i) : Nat) : Int))], true, true⟩) ⟨by decide, rfl, rfl⟩ (fun _ _ _ _ h => ⟨h, h, h⟩) (by simp only [go_sem, Nat.reduceEqDiff, Nat.reduceAdd, Nat.reduceLeDiff, List.take_zero]; first | done | rfl) (by simp only [go_sem, Nat.reduceEqDiff, Nat.reduceAdd, Nat.reduceLeDiff]; first | done | rfl) (by simp only [go_sem, Nat.reduceEqDiff, Nat.reduceAdd, Nat.reduceLeDiff]; first | done | rfl) ?_ ?_)
  · rintro i fr1 σ1 hi g1 hti hfr
    have f0_0 := hfr 0 rfl; have f0_3 := hfr 3 rfl; have f0_4 := hfr 4 rfl; have f0_8 := hfr 8 rfl; try (simp only [go_sem, Nat.reduceEqDiff, Nat.reduceAdd, Nat.reduceLeDiff] at f0_0); try (simp only [go_sem, Nat.reduceEqDiff, Nat.reduceAdd, Nat.reduceLeDiff] at f0_3); try (simp only [go_sem, Nat.reduceEqDiff, Nat.reduceAdd, Nat.reduceLeDiff] at f0_4); try (simp only [go_sem, Nat.reduceEqDiff, Nat.reduceAdd, Nat.reduceLeDiff] at f0_8)
    have hc := crcC_lt (s.take i)
    have e1 : (0 : Int) ≤ (i : Int) := by omega
    have hq := byteD_q hi
    have hb : (byteD s i).toNat < 4294967296 := Nat.lt_of_lt_of_le (byteD s i).toNat_lt (by decide)
    have w1 : IntKind.u32.wrap ((byteD s i).toNat : Int) = ((byteD s i).toNat : Int) := by rw [IntKind.wrap_u32]; omega
    have hx := pb_xor (a := crcC (s.take i)) (b := (byteD s i).toNat) rfl hc hb
    have hlt : crcC (s.take i) ^^^ (byteD s i).toNat < 4294967296 := Nat.xor_lt_two_pow (n := 32) hc hb
    have hnext : crcC (s.take (i + 1)) = stepsC 8 (crcC (s.take i) ^^^ (byteD s i).toNat) := by rw [List.take_add_one, hq, Option.toList_some, crcC_snoc]; rfl
    rw [hnext]
    refine w_block ?_
    (repeat' first
    | refine w_seq ?_ | refine w_rg ?_ | refine wo_nil ?_ | refine g_skU ?_ | refine g_skT ?_ | refine g_skF ?_
    | ((first | apply s_plain | apply s_void | apply s_guard | apply g_goT | apply g_goF); · simp only [go_sem, Nat.reduceEqDiff, Nat.reduceAdd, Nat.reduceLeDiff, f0_0, f0_3, f0_4, f0_8, hti, e1, Int.toNat_natCast, hq, g1, w1, ↓hx]; (first | done | rfl))
    | ((first | apply g_T | apply g_F | apply g_gT | apply g_gF); · intro q1_; (first | intro q2_ | have q2_ := q1_); simp only [go_sem, Nat.reduceEqDiff, Nat.reduceAdd, Nat.reduceLeDiff, f0_0, f0_3, f0_4, f0_8, hti, e1, Int.toNat_natCast, hq, g1, w1, ↓hx, q1_, q2_]; (first | done | rfl))
    | (apply w_condX; · simp only [go_sem, Nat.reduceEqDiff, Nat.reduceAdd, Nat.reduceLeDiff, f0_0, f0_3, f0_4, f0_8, hti, e1, Int.toNat_natCast, hq, g1, w1, ↓hx]; (first | done | rfl)); (first | refine wcd_T ?_ | refine wcd_F ?_)
    | refine w_skip ?_ | refine w_exit ?_ | refine w_ret ?_
    | fail
    )
    generalize crcC (s.take i) ^^^ (byteD s i).toNat = c0 at hlt
    refine w_block (w_loopF (fun m fr σ => ∃ j : Nat, m = 8 - j ∧ j ≤ 8 ∧ fr 18 = .sc (.int .i64 (j : Int)) ∧ σ.m 2000003 0 = some ⟨1, [.sc (.int .u32 ((stepsC j c0 : Nat) : Int))], true, true⟩) ?_ 8 ?_)
    · rintro m fr2 σ2 ⟨j, rfl, hj, f18, g2⟩ hfr2
      have k4 := hfr2 4 rfl
      simp only [go_sem, Nat.reduceEqDiff, Nat.reduceAdd, Nat.reduceLeDiff, f0_0, f0_3, f0_4, f0_8] at k4
      by_cases h8 : j < 8
      · have hd : decide ((j : Int) < 8) = true := by simp; omega
        have w2 : IntKind.i64.wrap ((j : Int) + 1) = ((j + 1 : Nat) : Int) := by rw [IntKind.wrap_i64]; omega
        have h282 := a282 B (σ := σ2) (o := 2000003) (g := 0) (stepsC_lt hlt j) g2
        (repeat' first
    | refine w_seq ?_ | refine w_rg ?_ | refine wo_nil ?_ | refine g_skU ?_ | refine g_skT ?_ | refine g_skF ?_
    | ((first | apply s_plain | apply s_void | apply s_guard | apply g_goT | apply g_goF); · simp only [go_sem, Nat.reduceEqDiff, Nat.reduceAdd, Nat.reduceLeDiff, f18, hd]; (first | done | rfl))
    | ((first | apply g_T | apply g_F | apply g_gT | apply g_gF); · intro q1_; (first | intro q2_ | have q2_ := q1_); simp only [go_sem, Nat.reduceEqDiff, Nat.reduceAdd, Nat.reduceLeDiff, f18, hd, q1_, q2_]; (first | done | rfl))
    | (apply w_condX; · simp only [go_sem, Nat.reduceEqDiff, Nat.reduceAdd, Nat.reduceLeDiff, f18, hd]; (first | done | rfl)); (first | refine wcd_T ?_ | refine wcd_F ?_)
    | refine w_skip ?_ | refine w_exit ?_ | refine w_ret ?_
    | fail
    )
        refine w_block ?_
        (repeat' first
    | refine w_seq ?_ | refine w_rg ?_ | refine wo_nil ?_ | refine g_skU ?_ | refine g_skT ?_ | refine g_skF ?_
    | ((first | apply s_plain | apply s_void | apply s_guard | apply g_goT | apply g_goF); · simp only [go_sem, Nat.reduceEqDiff, Nat.reduceAdd, Nat.reduceLeDiff, k4]; (first | done | rfl))
    | ((first | apply g_T | apply g_F | apply g_gT | apply g_gF); · intro q1_; (first | intro q2_ | have q2_ := q1_); simp only [go_sem, Nat.reduceEqDiff, Nat.reduceAdd, Nat.reduceLeDiff, k4, q1_, q2_]; (first | done | rfl))
    | (apply w_condX; · simp only [go_sem, Nat.reduceEqDiff, Nat.reduceAdd, Nat.reduceLeDiff, k4]; (first | done | rfl)); (first | refine wcd_T ?_ | refine wcd_F ?_)
    | refine w_skip ?_ | refine w_exit ?_ | refine w_ret ?_
    | fail
    )
        refine s_plain (v := .tu []) (σ' := σ2.put 2000003 0 (some ⟨1, [.sc (.int .u32 ((stepC (stepsC j c0) : Nat) : Int))], true, true⟩)) (by simp only [go_sem, Nat.reduceEqDiff, Nat.reduceAdd, Nat.reduceLeDiff, k4]; exact h282) ?_
        (repeat' first
    | refine w_seq ?_ | refine w_rg ?_ | refine wo_nil ?_ | refine g_skU ?_ | refine g_skT ?_ | refine g_skF ?_
    | ((first | apply s_plain | apply s_void | apply s_guard | apply g_goT | apply g_goF); · simp only [go_sem, Nat.reduceEqDiff, Nat.reduceAdd, Nat.reduceLeDiff]; (first | done | rfl))
    | ((first | apply g_T | apply g_F | apply g_gT | apply g_gF); · intro q1_; (first | intro q2_ | have q2_ := q1_); simp only [go_sem, Nat.reduceEqDiff, Nat.reduceAdd, Nat.reduceLeDiff, q1_, q2_]; (first | done | rfl))
    | (apply w_condX; · simp only [go_sem, Nat.reduceEqDiff, Nat.reduceAdd, Nat.reduceLeDiff]; (first | done | rfl)); (first | refine wcd_T ?_ | refine wcd_F ?_)
    | refine w_skip ?_ | refine w_exit ?_ | refine w_ret ?_
    | fail
    )
        try simp only [if_true]
        try show Wp _ _ _ _ _
        (repeat' first
    | refine w_seq ?_ | refine w_rg ?_ | refine wo_nil ?_ | refine g_skU ?_ | refine g_skT ?_ | refine g_skF ?_
    | ((first | apply s_plain | apply s_void | apply s_guard | apply g_goT | apply g_goF); · simp only [go_sem, Nat.reduceEqDiff, Nat.reduceAdd, Nat.reduceLeDiff, f18, w2]; (first | done | rfl))
    | ((first | apply g_T | apply g_F | apply g_gT | apply g_gF); · intro q1_; (first | intro q2_ | have q2_ := q1_); simp only [go_sem, Nat.reduceEqDiff, Nat.reduceAdd, Nat.reduceLeDiff, f18, w2, q1_, q2_]; (first | done | rfl))
    | (apply w_condX; · simp only [go_sem, Nat.reduceEqDiff, Nat.reduceAdd, Nat.reduceLeDiff, f18, w2]; (first | done | rfl)); (first | refine wcd_T ?_ | refine wcd_F ?_)
    | refine w_skip ?_ | refine w_exit ?_ | refine w_ret ?_
    | fail
    )
        exact ⟨8 - (j + 1), by omega, j + 1, rfl, by omega, by simp only [go_sem, Nat.reduceEqDiff, Nat.reduceAdd, Nat.reduceLeDiff, w2], by simp only [go_sem, Nat.reduceEqDiff, Nat.reduceAdd, Nat.reduceLeDiff, stepsC]⟩
      · have : j = 8 := by omega
        subst this
        have hd : decide (((8 : Nat) : Int) < 8) = false := by simp
        (repeat' first
    | refine w_seq ?_ | refine w_rg ?_ | refine wo_nil ?_ | refine g_skU ?_ | refine g_skT ?_ | refine g_skF ?_
    | ((first | apply s_plain | apply s_void | apply s_guard | apply g_goT | apply g_goF); · simp only [go_sem, Nat.reduceEqDiff, Nat.reduceAdd, Nat.reduceLeDiff, f18, hd]; (first | done | rfl))
    | ((first | apply g_T | apply g_F | apply g_gT | apply g_gF); · intro q1_; (first | intro q2_ | have q2_ := q1_); simp only [go_sem, Nat.reduceEqDiff, Nat.reduceAdd, Nat.reduceLeDiff, f18, hd, q1_, q2_]; (first | done | rfl))
    | (apply w_condX; · simp only [go_sem, Nat.reduceEqDiff, Nat.reduceAdd, Nat.reduceLeDiff, f18, hd]; (first | done | rfl)); (first | refine wcd_T ?_ | refine wcd_F ?_)
    | refine w_skip ?_ | refine w_exit ?_ | refine w_ret ?_
    | fail
    )
        try simp only [if_true]
        exact g2
    · exact ⟨0, rfl, by omega, by simp only [go_sem, Nat.reduceEqDiff, Nat.reduceAdd, Nat.reduceLeDiff]; first | done | rfl, by simp only [go_sem, Nat.reduceEqDiff, Nat.reduceAdd, Nat.reduceLeDiff, stepsC]; first | done | rfl⟩
  · rintro fr1 σ1 g1 hfr
    have e0_2 := hfr 2 rfl; have e0_3 := hfr 3 rfl; try (simp only [go_sem, Nat.reduceEqDiff, Nat.reduceAdd, Nat.reduceLeDiff] at e0_2); try (simp only [go_sem, Nat.reduceEqDiff, Nat.reduceAdd, Nat.reduceLeDiff] at e0_3)
    rw [List.take_length] at g1
    have hc := crcC_lt s
    have hx := pb_xor (a := crcC s) (b := 4294967295) (z := 4294967295) rfl hc (by decide)
    rw [turn_all hc] at hx
    try simp only [if_true]
    (repeat' first
    | refine w_seq ?_ | refine w_rg ?_ | refine wo_nil ?_ | refine g_skU ?_ | refine g_skT ?_ | refine g_skF ?_
    | ((first | apply s_plain | apply s_void | apply s_guard | apply g_goT | apply g_goF); · simp only [go_sem, Nat.reduceEqDiff, Nat.reduceAdd, Nat.reduceLeDiff, e0_2, e0_3, g1, ↓hx]; (first | done | rfl))
    | ((first | apply g_T | apply g_F | apply g_gT | apply g_gF); · intro q1_; (first | intro q2_ | have q2_ := q1_); simp only [go_sem, Nat.reduceEqDiff, Nat.reduceAdd, Nat.reduceLeDiff, e0_2, e0_3, g1, ↓hx, q1_, q2_]; (first | done | rfl))
    | (apply w_condX; · simp only [go_sem, Nat.reduceEqDiff, Nat.reduceAdd, Nat.reduceLeDiff, e0_2, e0_3, g1, ↓hx]; (first | done | rfl)); (first | refine wcd_T ?_ | refine wcd_F ?_)
    | refine w_skip ?_ | refine w_exit ?_ | refine w_ret ?_
    | fail
    )
    exact ⟨by first | exact .inr rfl | exact .inr trivial | exact .inl rfl, by simp only [go_sem, Nat.reduceEqDiff, Nat.reduceAdd, Nat.reduceLeDiff, retOf, resOf]; first | done | rfl⟩
theorem chk_run {c : Nat} (hc : c < 4294967296) : (IntKind.u8.wrap (c : Int) = ((c % 256 : Nat) : Int)) ∧ (IntKind.u8.wrap ((c / 2 ^ 8 : Nat) : Int) = ((c / 256 % 256 : Nat) : Int)) ∧ (IntKind.u8.wrap ((c / 2 ^ 16 : Nat) : Int) = ((c / 65536 % 256 : Nat) : Int)) ∧ (IntKind.u8.wrap ((c / 2 ^ 24 : Nat) : Int) = ((c / 16777216 : Nat) : Int)) := by
  simp only [IntKind.wrap_u8, Nat.reducePow]
  omega
end

def d269 : Def := (.code 1 [.tmp 2, .tmp 3] (.seq (.rg false [⟨.some 2, .none, .mv (.c (.string ⟨#[]⟩))⟩, ⟨.some 3, .none, .mv (.c (.int .i64 0))⟩]) (.seq (.seq (.rg false [⟨.some 5, .none, .mv (.t 0)⟩, ⟨.some 6, .none, .bin .lss (.t 5) (.c (.int .i64 0))⟩, ⟨.some 7, .none, .mv (.t 6)⟩, ⟨.some 8, .some (7, false), .mv (.t 0)⟩, ⟨.some 9, .some (7, false), .bin .geq (.t 8) (.c (.int .i64 4611686018427387904))⟩, ⟨.some 10, .none, .pick (.t 7) (.c (.bool true)) (.t 9)⟩]) (.cond (.t 10) (.seq (.rg false [⟨.some 2, .none, .mv (.c (.string ⟨#[]⟩))⟩, ⟨.some 3, .none, .mv (.c (.int .i64 1))⟩]) .ret) .skip)) (.seq (.rg false [⟨.some 4, .none, .mv (.c (.slice .none 0 0))⟩]) (.seq (.block 0 (.loop (.seq (.seq (.rg false [⟨.some 11, .none, .mv (.t 0)⟩, ⟨.some 12, .none, .bin .geq (.t 11) (.c (.int .i64 128))⟩]) (.cond (.t 12) .skip (.exit 0))) (.seq (.block 1 (.rg false [⟨.some 15, .none, .mv (.t 4)⟩, ⟨.some 16, .none, .mv (.t 0)⟩, ⟨.some 17, .none, .bin .rem (.t 16) (.c (.int .i64 128))⟩, ⟨.some 18, .none, .bin .add (.t 17) (.c (.int .i64 128))⟩, ⟨.some 19, .none, .cvi .u8 (.t 18)⟩, ⟨.some 20, .none, .bsl 1 (.int .u8 0) 1 [(0, .t 19)]⟩, ⟨.some 21, .none, .app 1 1 false (.t 15) (.t 20)⟩, ⟨.some 4, .none, .mv (.t 21)⟩])) (.rg false [⟨.some 13, .none, .mv (.t 0)⟩, ⟨.some 14, .none, .bin .quo (.t 13) (.c (.int .i64 128))⟩, ⟨.some 0, .none, .mv (.t 14)⟩]))))) (.seq (.rg false [⟨.some 22, .none, .mv (.t 4)⟩, ⟨.some 23, .none, .mv (.t 0)⟩, ⟨.some 24, .none, .cvi .u8 (.t 23)⟩, ⟨.some 25, .none, .bsl 1 (.int .u8 0) 1 [(0, .t 24)]⟩, ⟨.some 26, .none, .app 1 1 false (.t 22) (.t 25)⟩, ⟨.some 27, .none, .b2s (.t 26)⟩, ⟨.some 2, .none, .mv (.t 27)⟩, ⟨.some 3, .none, .mv (.c (.int .i64 0))⟩]) .ret))))))
def d271 : Def := (.code 1 [.tmp 2, .tmp 3, .tmp 4] (.seq (.rg false [⟨.some 2, .none, .mv (.c (.int .i64 0))⟩, ⟨.some 3, .none, .mv (.c (.int .i64 0))⟩, ⟨.some 4, .none, .mv (.c (.int .i64 0))⟩]) (.seq (.rg false [⟨.some 5, .none, .mv (.c (.int .i64 0))⟩]) (.seq (.seq (.rg false [⟨.some 8, .none, .mv (.t 0)⟩, ⟨.some 9, .none, .lenS (.t 8)⟩, ⟨.some 10, .none, .mnmx false [.t 9, .c (.int .i64 9)]⟩, ⟨.some 11, .none, .mv (.c (.int .i64 0))⟩]) (.block 0 (.loop (.seq (.rg false [⟨.some 12, .none, .bin .lss (.t 11) (.t 10)⟩]) (.seq (.cond (.t 12) .skip (.exit 0)) (.seq (.block 1 (.seq (.rg false [⟨.some 13, .none, .mv (.t 11)⟩, ⟨.some 6, .none, .mv (.t 13)⟩]) (.seq (.rg false [⟨.some 14, .none, .mv (.t 0)⟩, ⟨.some 15, .none, .mv (.t 6)⟩, ⟨.some 16, .none, .ix (.t 14) (.t 15)⟩, ⟨.some 17, .none, .cvi .i64 (.t 16)⟩, ⟨.some 7, .none, .mv (.t 17)⟩]) (.seq (.rg false [⟨.some 18, .none, .mv (.t 5)⟩, ⟨.some 19, .none, .mv (.t 7)⟩, ⟨.some 20, .none, .bin .rem (.t 19) (.c (.int .i64 128))⟩, ⟨.some 21, .none, .mv (.t 6)⟩, ⟨.some 22, .none, .bin .mul (.c (.int .i64 7)) (.t 21)⟩, ⟨.some 23, .none, .bin .shl (.t 20) (.t 22)⟩, ⟨.some 24, .none, .bin .or (.t 18) (.t 23)⟩, ⟨.some 5, .none, .mv (.t 24)⟩]) (.seq (.seq (.rg false [⟨.some 25, .none, .mv (.t 7)⟩, ⟨.some 26, .none, .bin .geq (.t 25) (.c (.int .i64 128))⟩]) (.cond (.t 26) (.exit 1) .skip)) (.seq (.seq (.rg false [⟨.some 27, .none, .mv (.t 7)⟩, ⟨.some 28, .none, .bin .eql (.t 27) (.c (.int .i64 0))⟩, ⟨.some 29, .none, .mv (.t 28)⟩, ⟨.some 30, .some (29, true), .mv (.t 6)⟩, ⟨.some 31, .some (29, true), .bin .gtr (.t 30) (.c (.int .i64 0))⟩, ⟨.some 32, .none, .pick (.t 29) (.t 31) (.c (.bool false))⟩]) (.cond (.t 32) (.seq (.rg false [⟨.some 2, .none, .mv (.c (.int .i64 0))⟩, ⟨.some 3, .none, .mv (.c (.int .i64 0))⟩, ⟨.some 4, .none, .mv (.c (.int .i64 6))⟩]) .ret) .skip)) (.seq (.rg false [⟨.some 33, .none, .mv (.t 5)⟩, ⟨.some 34, .none, .mv (.t 6)⟩, ⟨.some 35, .none, .bin .add (.t 34) (.c (.int .i64 1))⟩, ⟨.some 2, .none, .mv (.t 33)⟩, ⟨.some 3, .none, .mv (.t 35)⟩, ⟨.some 4, .none, .mv (.c (.int .i64 0))⟩]) .ret))))))) (.rg false [⟨.some 36, .none, .bin .add (.t 11) (.c (.int .i64 1))⟩, ⟨.some 11, .none, .mv (.t 36)⟩]))))))) (.seq (.seq (.rg false [⟨.some 37, .none, .mv (.t 0)⟩, ⟨.some 38, .none, .lenS (.t 37)⟩, ⟨.some 39, .none, .bin .geq (.t 38) (.c (.int .i64 9))⟩]) (.cond (.t 39) (.seq (.rg false [⟨.some 2, .none, .mv (.c (.int .i64 0))⟩, ⟨.some 3, .none, .mv (.c (.int .i64 0))⟩, ⟨.some 4, .none, .mv (.c (.int .i64 2))⟩]) .ret) .skip)) (.seq (.rg false [⟨.some 2, .none, .mv (.c (.int .i64 0))⟩, ⟨.some 3, .none, .mv (.c (.int .i64 0))⟩, ⟨.some 4, .none, .mv (.c (.int .i64 3))⟩]) .ret))))))
def lic : List (Nat × Def) := [(269, d269), (271, d271)]
theorem byteOf_of (bs : List UInt8) : (bytesOf bs).mapM byteOf = some bs := by
  induction bs with
  | nil => rfl
  | cons b bs ih =>
    simp only [bytesOf, List.map_cons] at ih ⊢
    rw [mapM_cons']
    simp only [byteOf, Int.toNat_natCast, UInt8.ofNat_toNat, Option.bind_some, ih]
theorem byteOf_nat (n : Nat) : byteOf (.sc (.int .u8 (n : Int))) = some (UInt8.ofNat n) := by simp [byteOf]
theorem pb_or {a b : Nat} (ha : a < 9223372036854775808) (hb : b < 9223372036854775808) : pbin .or (.int .i64 (a : Int)) (.int .i64 (b : Int)) = some (.int .i64 ((a ||| b : Nat) : Int)) := by
  have h : a ||| b < 9223372036854775808 := Nat.or_lt_two_pow (n := 63) ha hb
  have e : ∀ {c : Nat}, c < 9223372036854775808 → (BitVec.ofInt IntKind.i64.bits (c : Int)).toNat = c := by
    intro c hc
    show (BitVec.ofInt 64 (c : Int)).toNat = c
    rw [BitVec.toNat_ofInt]
    omega
  simp only [pbin, if_true]
  have e4 : IntKind.i64.wrap ((a ||| b : Nat) : Int) = ((a ||| b : Nat) : Int) := by
    generalize a ||| b = c at h
    rw [IntKind.wrap_i64]; omega
  rw [BitVec.toNat_or, e ha, e hb, e4]
theorem pb_shl {a k : Nat} (hk : k ≤ 56) (ha : a < 128) : pbin .shl (.int .i64 (a : Int)) (.int .i64 (k : Int)) = some (.int .i64 ((a * 2 ^ k : Nat) : Int)) := by
  have h1 : ¬ ((k : Int) < 0) := by omega
  have h2 : 2 ^ k ≤ 72057594037927936 := Nat.pow_le_pow_right (n := 2) (by decide) hk
  have h3 : a * 2 ^ k ≤ 127 * 72057594037927936 := Nat.mul_le_mul (by omega) h2
  have e : min (k : Int).toNat IntKind.i64.bits = k := by show min (k : Int).toNat 64 = k; omega
  have e2 : (a : Int) * 2 ^ k = ((a * 2 ^ k : Nat) : Int) := by rw [Int.natCast_mul, Int.natCast_pow]; rfl
  generalize hz : a * 2 ^ k = z at h3 e2
  have e3 : IntKind.i64.wrap ((a : Int) * 2 ^ k) = (z : Int) := by rw [e2, IntKind.wrap_i64]; omega
  show (if (k : Int) < 0 then none else some (Value.int .i64 (IntKind.i64.wrap ((a : Int) * 2 ^ (min (k : Int).toNat IntKind.i64.bits))))) = _
  rw [if_neg h1, e, e3]
section
variable {env : Nat → Option Def} {fr : Fr} {σ σ' σ'' : St} {K : Fr → St → Prop} {Q : X → Fr → St → Prop} {p : PV} {bs : List UInt8}
theorem a270 (B : Has lib env) {s : List UInt8} (hs : s.length ≤ 4000000000) : AV env 270 [txt s] = some (txt (chkB s)) := by
  have h := a279 B hs
  have hc := crcC_lt s
  unfold chkB
  generalize hg : 4294967295 - crcC s = c at h
  have hc : c < 4294967296 := by omega
  obtain ⟨u0, u1, u2, u3⟩ := chk_run hc
  have e1 := pb_shr (a := c) 8 (z := 8) rfl (by decide) hc
  have e2 := pb_shr (a := c) 16 (z := 16) rfl (by decide) hc
  have e3 := pb_shr (a := c) 24 (z := 24) rfl (by decide) hc
  refine AV_wp (B (270, d270) (by simp [lib])) rfl ?_
  (repeat' first
    | refine w_seq ?_ | refine w_rg ?_ | refine wo_nil ?_ | refine g_skU ?_ | refine g_skT ?_ | refine g_skF ?_
    | ((first | apply s_plain | apply s_void | apply s_guard | apply g_goT | apply g_goF); · simp only [go_sem, Nat.reduceEqDiff, Nat.reduceAdd, Nat.reduceLeDiff, h, ↓e1, ↓e2, ↓e3, u0, u1, u2, u3, elemsOf, byteOf_nat]; (first | done | rfl))
    | ((first | apply g_T | apply g_F | apply g_gT | apply g_gF); · intro q1_; (first | intro q2_ | have q2_ := q1_); simp only [go_sem, Nat.reduceEqDiff, Nat.reduceAdd, Nat.reduceLeDiff, h, ↓e1, ↓e2, ↓e3, u0, u1, u2, u3, elemsOf, byteOf_nat, q1_, q2_]; (first | done | rfl))
    | (apply w_condX; · simp only [go_sem, Nat.reduceEqDiff, Nat.reduceAdd, Nat.reduceLeDiff, h, ↓e1, ↓e2, ↓e3, u0, u1, u2, u3, elemsOf, byteOf_nat]; (first | done | rfl)); (first | refine wcd_T ?_ | refine wcd_F ?_)
    | refine w_skip ?_ | refine w_exit ?_ | refine w_ret ?_
    | fail
    )
  exact ⟨by first | exact .inr rfl | exact .inr trivial | exact .inl rfl, by simp only [go_sem, Nat.reduceEqDiff, Nat.reduceAdd, Nat.reduceLeDiff, retOf, resOf]; first | done | rfl⟩
theorem a269 (C : Has lic env) {n : Nat} (hn : n ≤ 1000000) : AV env 269 [.sc (.int .i64 (n : Int))] = some (.tu [txt (encN n), .sc (.int .i64 0)]) := by
  have h1 : decide ((n : Int) < 0) = false := by simp
  have h2 : decide ((n : Int) ≥ 4611686018427387904) = false := by simp; omega
  refine AV_wp (C (269, d269) (by simp [lic])) rfl ?_
  (repeat' first
    | refine w_seq ?_ | refine w_rg ?_ | refine wo_nil ?_ | refine g_skU ?_ | refine g_skT ?_ | refine g_skF ?_
    | ((first | apply s_plain | apply s_void | apply s_guard | apply g_goT | apply g_goF); · simp only [go_sem, Nat.reduceEqDiff, Nat.reduceAdd, Nat.reduceLeDiff, h1, h2]; (first | done | rfl))
    | ((first | apply g_T | apply g_F | apply g_gT | apply g_gF); · intro q1_; (first | intro q2_ | have q2_ := q1_); simp only [go_sem, Nat.reduceEqDiff, Nat.reduceAdd, Nat.reduceLeDiff, h1, h2, q1_, q2_]; (first | done | rfl))
    | (apply w_condX; · simp only [go_sem, Nat.reduceEqDiff, Nat.reduceAdd, Nat.reduceLeDiff, h1, h2]; (first | done | rfl)); (first | refine wcd_T ?_ | refine wcd_F ?_)
    | refine w_skip ?_ | refine w_exit ?_ | refine w_ret ?_
    | fail
    )
  refine w_block (w_loopF (fun m fr σ => ∃ bs : List UInt8, m ≤ n ∧ bs.length + m ≤ n ∧ fr 0 = .sc (.int .i64 (m : Int)) ∧ Gat σ [21, 26] 1 false (fr 4) (bytesOf bs) ∧ bs ++ encN m = encN n) ?_ n ?_)
  · rintro q fr1 σ1 ⟨bs, hq, hl, f0, hg, he⟩ hfr
    by_cases h128 : q ≥ 128
    · have hd : decide ((q : Int) ≥ 128) = true := by simp; omega
      have e1 : (q : Int).tmod 128 = ((q % 128 : Nat) : Int) := tmod_nat q 128 rfl
      have e2 : IntKind.i64.wrap ((q : Int).tdiv 128) = ((q / 128 : Nat) : Int) := by rw [tdiv_nat q 128 (z := 128) rfl, IntKind.wrap_i64]; omega
      have e3 : IntKind.i64.wrap (((q % 128 : Nat) : Int) + 128) = ((q % 128 + 128 : Nat) : Int) := by rw [IntKind.wrap_i64]; omega
      have e4 : IntKind.u8.wrap ((q % 128 + 128 : Nat) : Int) = ((q % 128 + 128 : Nat) : Int) := by rw [IntKind.wrap_u8]; omega
      have n1 : ¬ ((128 : Int) = 0) := by decide
      have hsm : ((UInt8.ofNat (q % 128 + 128)).toNat : Int) = ((q % 128 + 128 : Nat) : Int) := by rw [ofNat_small (by omega)]
      (repeat' first
    | refine w_seq ?_ | refine w_rg ?_ | refine wo_nil ?_ | refine g_skU ?_ | refine g_skT ?_ | refine g_skF ?_
    | ((first | apply s_plain | apply s_void | apply s_guard | apply g_goT | apply g_goF); · simp only [go_sem, Nat.reduceEqDiff, Nat.reduceAdd, Nat.reduceLeDiff, f0, hd]; (first | done | rfl))
    | ((first | apply g_T | apply g_F | apply g_gT | apply g_gF); · intro q1_; (first | intro q2_ | have q2_ := q1_); simp only [go_sem, Nat.reduceEqDiff, Nat.reduceAdd, Nat.reduceLeDiff, f0, hd, q1_, q2_]; (first | done | rfl))
    | (apply w_condX; · simp only [go_sem, Nat.reduceEqDiff, Nat.reduceAdd, Nat.reduceLeDiff, f0, hd]; (first | done | rfl)); (first | refine wcd_T ?_ | refine wcd_F ?_)
    | refine w_skip ?_ | refine w_exit ?_ | refine w_ret ?_
    | fail
    )
      refine w_block ?_
      (repeat' first
    | refine w_seq ?_ | refine w_rg ?_ | refine wo_nil ?_ | refine g_skU ?_ | refine g_skT ?_ | refine g_skF ?_
    | ((first | apply s_plain | apply s_void | apply s_guard | apply g_goT | apply g_goF); · simp only [go_sem, Nat.reduceEqDiff, Nat.reduceAdd, Nat.reduceLeDiff, f0, e1, e3, e4, n1]; (first | done | rfl))
    | ((first | apply g_T | apply g_F | apply g_gT | apply g_gF); · intro q1_; (first | intro q2_ | have q2_ := q1_); simp only [go_sem, Nat.reduceEqDiff, Nat.reduceAdd, Nat.reduceLeDiff, f0, e1, e3, e4, n1, q1_, q2_]; (first | done | rfl))
    | fail
    )
      refine s_gat (os := [21, 26]) (w := false) (xs := bytesOf bs) (e := .sc (.int .u8 ((q % 128 + 128 : Nat) : Int))) (by simp only [go_sem, Nat.reduceEqDiff, Nat.reduceAdd, Nat.reduceLeDiff]; exact hg.new _) (by decide) (by simp only [go_sem, Nat.reduceEqDiff, Nat.reduceAdd, Nat.reduceLeDiff, srcOf, elemsOf]) rfl rfl (by rw [bytesOf_len]; omega) ?_
      intro p2 σ2 hg2
      have hg3 : Gat σ2 [21, 26] 1 false p2 (bytesOf (bs ++ [UInt8.ofNat (q % 128 + 128)])) := by
        rw [bytesOf, List.map_append, List.map_singleton, hsm]; exact hg2
      (repeat' first
    | refine w_seq ?_ | refine w_rg ?_ | refine wo_nil ?_ | refine g_skU ?_ | refine g_skT ?_ | refine g_skF ?_
    | ((first | apply s_plain | apply s_void | apply s_guard | apply g_goT | apply g_goF); · simp only [go_sem, Nat.reduceEqDiff, Nat.reduceAdd, Nat.reduceLeDiff]; (first | done | rfl))
    | ((first | apply g_T | apply g_F | apply g_gT | apply g_gF); · intro q1_; (first | intro q2_ | have q2_ := q1_); simp only [go_sem, Nat.reduceEqDiff, Nat.reduceAdd, Nat.reduceLeDiff, q1_, q2_]; (first | done | rfl))
    | (apply w_condX; · simp only [go_sem, Nat.reduceEqDiff, Nat.reduceAdd, Nat.reduceLeDiff]; (first | done | rfl)); (first | refine wcd_T ?_ | refine wcd_F ?_)
    | refine w_skip ?_ | refine w_exit ?_ | refine w_ret ?_
    | fail
    )
      try simp only [if_true]
      try show Wp _ _ _ _ _
      (repeat' first
    | refine w_seq ?_ | refine w_rg ?_ | refine wo_nil ?_ | refine g_skU ?_ | refine g_skT ?_ | refine g_skF ?_
    | ((first | apply s_plain | apply s_void | apply s_guard | apply g_goT | apply g_goF); · simp only [go_sem, Nat.reduceEqDiff, Nat.reduceAdd, Nat.reduceLeDiff, f0, e2, n1]; (first | done | rfl))
    | ((first | apply g_T | apply g_F | apply g_gT | apply g_gF); · intro q1_; (first | intro q2_ | have q2_ := q1_); simp only [go_sem, Nat.reduceEqDiff, Nat.reduceAdd, Nat.reduceLeDiff, f0, e2, n1, q1_, q2_]; (first | done | rfl))
    | (apply w_condX; · simp only [go_sem, Nat.reduceEqDiff, Nat.reduceAdd, Nat.reduceLeDiff, f0, e2, n1]; (first | done | rfl)); (first | refine wcd_T ?_ | refine wcd_F ?_)
    | refine w_skip ?_ | refine w_exit ?_ | refine w_ret ?_
    | fail
    )
      refine ⟨q / 128, by omega, bs ++ [UInt8.ofNat (q % 128 + 128)], by omega, by rw [List.length_append]; simp; omega, by simp only [go_sem, Nat.reduceEqDiff, Nat.reduceAdd, Nat.reduceLeDiff, e2], by simp only [go_sem, Nat.reduceEqDiff, Nat.reduceAdd, Nat.reduceLeDiff]; exact hg3, ?_⟩
      rw [List.append_assoc, ← he]
      congr 1
      rw [encN.eq_def q, dif_neg (by omega)]
      rfl
    · have hd : decide ((q : Int) ≥ 128) = false := by simp; omega
      have e4 : IntKind.u8.wrap ((q : Nat) : Int) = ((q : Nat) : Int) := by rw [IntKind.wrap_u8]; omega
      have hsm : ((UInt8.ofNat q).toNat : Int) = (q : Int) := by rw [ofNat_small (by omega)]
      rw [encN, dif_pos (by omega)] at he
      (repeat' first
    | refine w_seq ?_ | refine w_rg ?_ | refine wo_nil ?_ | refine g_skU ?_ | refine g_skT ?_ | refine g_skF ?_
    | ((first | apply s_plain | apply s_void | apply s_guard | apply g_goT | apply g_goF); · simp only [go_sem, Nat.reduceEqDiff, Nat.reduceAdd, Nat.reduceLeDiff, f0, hd]; (first | done | rfl))
    | ((first | apply g_T | apply g_F | apply g_gT | apply g_gF); · intro q1_; (first | intro q2_ | have q2_ := q1_); simp only [go_sem, Nat.reduceEqDiff, Nat.reduceAdd, Nat.reduceLeDiff, f0, hd, q1_, q2_]; (first | done | rfl))
    | (apply w_condX; · simp only [go_sem, Nat.reduceEqDiff, Nat.reduceAdd, Nat.reduceLeDiff, f0, hd]; (first | done | rfl)); (first | refine wcd_T ?_ | refine wcd_F ?_)
    | refine w_skip ?_ | refine w_exit ?_ | refine w_ret ?_
    | fail
    )
      try simp only [if_true]
      try show Wp _ _ _ _ _
      (repeat' first
    | refine w_seq ?_ | refine w_rg ?_ | refine wo_nil ?_ | refine g_skU ?_ | refine g_skT ?_ | refine g_skF ?_
    | ((first | apply s_plain | apply s_void | apply s_guard | apply g_goT | apply g_goF); · simp only [go_sem, Nat.reduceEqDiff, Nat.reduceAdd, Nat.reduceLeDiff, f0, e4]; (first | done | rfl))
    | ((first | apply g_T | apply g_F | apply g_gT | apply g_gF); · intro q1_; (first | intro q2_ | have q2_ := q1_); simp only [go_sem, Nat.reduceEqDiff, Nat.reduceAdd, Nat.reduceLeDiff, f0, e4, q1_, q2_]; (first | done | rfl))
    | fail
    )
      refine s_gat (os := [21, 26]) (w := false) (xs := bytesOf bs) (e := .sc (.int .u8 ((q : Nat) : Int))) (by simp only [go_sem, Nat.reduceEqDiff, Nat.reduceAdd, Nat.reduceLeDiff]; exact hg.new _) (by decide) (by simp only [go_sem, Nat.reduceEqDiff, Nat.reduceAdd, Nat.reduceLeDiff, srcOf, elemsOf, e4]) rfl rfl (by rw [bytesOf_len]; omega) ?_
      intro p2 σ2 hg2
      have hg3 : Gat σ2 [21, 26] 1 false p2 (bytesOf (encN n)) := by
        rw [← he, bytesOf, List.map_append, List.map_singleton, hsm]; exact hg2
      have hel := gat_elems hg3
      (repeat' first
    | refine w_seq ?_ | refine w_rg ?_ | refine wo_nil ?_ | refine g_skU ?_ | refine g_skT ?_ | refine g_skF ?_
    | ((first | apply s_plain | apply s_void | apply s_guard | apply g_goT | apply g_goF); · simp only [go_sem, Nat.reduceEqDiff, Nat.reduceAdd, Nat.reduceLeDiff, hel, byteOf_of]; (first | done | rfl))
    | ((first | apply g_T | apply g_F | apply g_gT | apply g_gF); · intro q1_; (first | intro q2_ | have q2_ := q1_); simp only [go_sem, Nat.reduceEqDiff, Nat.reduceAdd, Nat.reduceLeDiff, hel, byteOf_of, q1_, q2_]; (first | done | rfl))
    | (apply w_condX; · simp only [go_sem, Nat.reduceEqDiff, Nat.reduceAdd, Nat.reduceLeDiff, hel, byteOf_of]; (first | done | rfl)); (first | refine wcd_T ?_ | refine wcd_F ?_)
    | refine w_skip ?_ | refine w_exit ?_ | refine w_ret ?_
    | fail
    )
      exact ⟨by first | exact .inr rfl | exact .inr trivial | exact .inl rfl, by simp only [go_sem, Nat.reduceEqDiff, Nat.reduceAdd, Nat.reduceLeDiff, retOf, resOf]; first | done | rfl⟩
  · exact ⟨[], Nat.le_refl _, by simp, by simp only [go_sem, Nat.reduceEqDiff, Nat.reduceAdd, Nat.reduceLeDiff], by simp only [go_sem, Nat.reduceEqDiff, Nat.reduceAdd, Nat.reduceLeDiff]; exact .em, rfl⟩
theorem a271 (C : Has lic env) {s : List UInt8} (hs : s.length ≤ 4000000000) : AV env 271 [txt s] = some (.tu [.sc (.int .i64 ((headN s).1 : Int)), .sc (.int .i64 ((headN s).2.1 : Int)), .sc (.int .i64 (headN s).2.2)]) := by
  refine AV_wp (C (271, d271) (by simp [lic])) rfl ?_
  have hmn : mnmx false [.sc (.int .i64 (s.length : Int)), .sc (.int .i64 9)] = some (.sc (.int .i64 ((min s.length 9 : Nat) : Int))) := by
    rw [mn2]; congr 3; omega
  (repeat' first
    | refine w_seq ?_ | refine w_rg ?_ | refine wo_nil ?_ | refine g_skU ?_ | refine g_skT ?_ | refine g_skF ?_
    | ((first | apply s_plain | apply s_void | apply s_guard | apply g_goT | apply g_goF); · simp only [go_sem, Nat.reduceEqDiff, Nat.reduceAdd, Nat.reduceLeDiff, hmn]; (first | done | rfl))
    | ((first | apply g_T | apply g_F | apply g_gT | apply g_gF); · intro q1_; (first | intro q2_ | have q2_ := q1_); simp only [go_sem, Nat.reduceEqDiff, Nat.reduceAdd, Nat.reduceLeDiff, hmn, q1_, q2_]; (first | done | rfl))
    | (apply w_condX; · simp only [go_sem, Nat.reduceEqDiff, Nat.reduceAdd, Nat.reduceLeDiff, hmn]; (first | done | rfl)); (first | refine wcd_T ?_ | refine wcd_F ?_)
    | refine w_skip ?_ | refine w_exit ?_ | refine w_ret ?_
    | fail
    )
  refine w_block (w_rangeF (min s.length 9) (by omega) (fun i fr σ => fr 5 = .sc (.int .i64 ((sumN s i : Nat) : Int)) ∧ ∀ j, j < i → ¬ (byteD s j).toNat < 128) ⟨by decide, rfl, rfl⟩ (fun i fr σ v h => ⟨by simp only [go_sem, Nat.reduceEqDiff, Nat.reduceAdd, Nat.reduceLeDiff]; exact h, by simp only [go_sem, Nat.reduceEqDiff, Nat.reduceAdd, Nat.reduceLeDiff]; exact h, by simp only [go_sem, Nat.reduceEqDiff, Nat.reduceAdd, Nat.reduceLeDiff]; exact h⟩) ⟨by simp only [go_sem, Nat.reduceEqDiff, Nat.reduceAdd, Nat.reduceLeDiff, sumN]; first | done | rfl, fun j hj => by omega⟩ (by simp only [go_sem, Nat.reduceEqDiff, Nat.reduceAdd, Nat.reduceLeDiff]; first | done | rfl) (by simp only [go_sem, Nat.reduceEqDiff, Nat.reduceAdd, Nat.reduceLeDiff, hmn]; first | done | rfl) ?_ ?_)
  · rintro i fr1 σ1 hi ⟨g5, hno⟩ hti hfr
    have f0_0 := hfr 0 rfl; have f0_10 := hfr 10 rfl; try (simp only [go_sem, Nat.reduceEqDiff, Nat.reduceAdd, Nat.reduceLeDiff] at f0_0); try (simp only [go_sem, Nat.reduceEqDiff, Nat.reduceAdd, Nat.reduceLeDiff] at f0_10)
    have hil : i < s.length := by omega
    have e1 : (0 : Int) ≤ (i : Int) := by omega
    have hq := byteD_q hil
    have hbl := (byteD s i).toNat_lt
    have w1 : IntKind.i64.wrap ((byteD s i).toNat : Int) = ((byteD s i).toNat : Int) := by rw [IntKind.wrap_i64]; omega
    have e2 : ((byteD s i).toNat : Int).tmod 128 = (((byteD s i).toNat % 128 : Nat) : Int) := tmod_nat _ 128 rfl
    have e3 : IntKind.i64.wrap (7 * (i : Int)) = ((7 * i : Nat) : Int) := by rw [IntKind.wrap_i64]; omega
    have hsl := pb_shl (a := (byteD s i).toNat % 128) (k := 7 * i) (by omega) (Nat.mod_lt _ (by decide))
    have hp : 2 ^ (7 * i) = 128 ^ i := by rw [Nat.pow_mul]
    have hsum := sumN_lt s i
    have hsum2 := sumN_lt s (i + 1)
    have h128 : 128 ^ (i + 1) ≤ 128 ^ 9 := Nat.pow_le_pow_right (by decide) (by omega)
    have h63 : (128 : Nat) ^ 9 = 9223372036854775808 := rfl
    have hsucc : sumN s (i + 1) = sumN s i + (byteD s i).toNat % 128 * 2 ^ (7 * i) := by rw [hp]; rfl
    have hor := pb_or (a := sumN s i) (b := (byteD s i).toNat % 128 * 2 ^ (7 * i)) (by omega) (by omega)
    rw [or_add (by rw [hp]; exact hsum), ← hsucc] at hor
    have n1 : ¬ ((128 : Int) = 0) := by decide
    refine w_block ?_
    (repeat' first
    | refine w_seq ?_ | refine w_rg ?_ | refine wo_nil ?_ | refine g_skU ?_ | refine g_skT ?_ | refine g_skF ?_
    | ((first | apply s_plain | apply s_void | apply s_guard | apply g_goT | apply g_goF); · simp only [go_sem, Nat.reduceEqDiff, Nat.reduceAdd, Nat.reduceLeDiff, f0_0, f0_10, hti, g5, e1, Int.toNat_natCast, hq, w1, e2, e3, n1, ↓hsl, ↓hor]; (first | done | rfl))
    | ((first | apply g_T | apply g_F | apply g_gT | apply g_gF); · intro q1_; (first | intro q2_ | have q2_ := q1_); simp only [go_sem, Nat.reduceEqDiff, Nat.reduceAdd, Nat.reduceLeDiff, f0_0, f0_10, hti, g5, e1, Int.toNat_natCast, hq, w1, e2, e3, n1, ↓hsl, ↓hor, q1_, q2_]; (first | done | rfl))
    | (apply w_condX; · simp only [go_sem, Nat.reduceEqDiff, Nat.reduceAdd, Nat.reduceLeDiff, f0_0, f0_10, hti, g5, e1, Int.toNat_natCast, hq, w1, e2, e3, n1, ↓hsl, ↓hor]; (first | done | rfl)); (first | refine wcd_T ?_ | refine wcd_F ?_)
    | refine w_skip ?_ | refine w_exit ?_ | refine w_ret ?_
    | fail
    )
    by_cases hb : (byteD s i).toNat < 128
    · have hd : decide (((byteD s i).toNat : Int) ≥ 128) = false := by simp; omega
      have hat := head_at hil (by omega) hb hno
      by_cases hz : (byteD s i).toNat = 0 ∧ i > 0
      · rw [if_pos hz] at hat
        have d1 : (((byteD s i).toNat : Int) == 0) = true := by simp [hz.1]
        have d2 : decide ((i : Int) > 0) = true := by simp; omega
        (repeat' first
    | refine w_seq ?_ | refine w_rg ?_ | refine wo_nil ?_ | refine g_skU ?_ | refine g_skT ?_ | refine g_skF ?_
    | ((first | apply s_plain | apply s_void | apply s_guard | apply g_goT | apply g_goF); · simp only [go_sem, Nat.reduceEqDiff, Nat.reduceAdd, Nat.reduceLeDiff, hd, d1, d2]; (first | done | rfl))
    | ((first | apply g_T | apply g_F | apply g_gT | apply g_gF); · intro q1_; (first | intro q2_ | have q2_ := q1_); simp only [go_sem, Nat.reduceEqDiff, Nat.reduceAdd, Nat.reduceLeDiff, hd, d1, d2, q1_, q2_]; (first | done | rfl))
    | (apply w_condX; · simp only [go_sem, Nat.reduceEqDiff, Nat.reduceAdd, Nat.reduceLeDiff, hd, d1, d2]; (first | done | rfl)); (first | refine wcd_T ?_ | refine wcd_F ?_)
    | refine w_skip ?_ | refine w_exit ?_ | refine w_ret ?_
    | fail
    )
        exact ⟨by first | exact .inr rfl | exact .inr trivial | exact .inl rfl, by simp only [go_sem, Nat.reduceEqDiff, Nat.reduceAdd, Nat.reduceLeDiff, retOf, resOf, hat]; first | done | rfl⟩
        all_goals first | done | rfl
      · rw [if_neg hz] at hat
        have w4 : IntKind.i64.wrap ((i : Int) + 1) = ((i + 1 : Nat) : Int) := by rw [IntKind.wrap_i64]; omega
        have d3 : ((((byteD s i).toNat : Int) == 0) && decide ((i : Int) > 0)) = false := by
          rw [Bool.eq_false_iff]
          intro h
          simp only [Bool.and_eq_true, beq_iff_eq, decide_eq_true_eq] at h
          exact hz ⟨by omega, by omega⟩
        (repeat' first
    | refine w_seq ?_ | refine w_rg ?_ | refine wo_nil ?_ | refine g_skU ?_ | refine g_skT ?_ | refine g_skF ?_
    | ((first | apply s_plain | apply s_void | apply s_guard | apply g_goT | apply g_goF); · simp only [go_sem, Nat.reduceEqDiff, Nat.reduceAdd, Nat.reduceLeDiff, hd, d3, w4]; (first | done | rfl))
    | ((first | apply g_T | apply g_F | apply g_gT | apply g_gF); · intro q1_; (first | intro q2_ | have q2_ := q1_); simp only [go_sem, Nat.reduceEqDiff, Nat.reduceAdd, Nat.reduceLeDiff, hd, d3, w4, q1_, q2_]; (first | done | rfl))
    | (apply w_condX; · simp only [go_sem, Nat.reduceEqDiff, Nat.reduceAdd, Nat.reduceLeDiff, hd, d3, w4]; (first | done | rfl)); (first | refine wcd_T ?_ | refine wcd_F ?_)
    | refine w_skip ?_ | refine w_exit ?_ | refine w_ret ?_
    | fail
    )
        exact ⟨by first | exact .inr rfl | exact .inr trivial | exact .inl rfl, by simp only [go_sem, Nat.reduceEqDiff, Nat.reduceAdd, Nat.reduceLeDiff, retOf, resOf, hat]; first | done | rfl⟩
    · have hd : decide (((byteD s i).toNat : Int) ≥ 128) = true := by simp; omega
      (repeat' first
    | refine w_seq ?_ | refine w_rg ?_ | refine wo_nil ?_ | refine g_skU ?_ | refine g_skT ?_ | refine g_skF ?_
    | ((first | apply s_plain | apply s_void | apply s_guard | apply g_goT | apply g_goF); · simp only [go_sem, Nat.reduceEqDiff, Nat.reduceAdd, Nat.reduceLeDiff, hd]; (first | done | rfl))
    | ((first | apply g_T | apply g_F | apply g_gT | apply g_gF); · intro q1_; (first | intro q2_ | have q2_ := q1_); simp only [go_sem, Nat.reduceEqDiff, Nat.reduceAdd, Nat.reduceLeDiff, hd, q1_, q2_]; (first | done | rfl))
    | (apply w_condX; · simp only [go_sem, Nat.reduceEqDiff, Nat.reduceAdd, Nat.reduceLeDiff, hd]; (first | done | rfl)); (first | refine wcd_T ?_ | refine wcd_F ?_)
    | refine w_skip ?_ | refine w_exit ?_ | refine w_ret ?_
    | fail
    )
      try simp only [if_true]
      refine ⟨by simp only [go_sem, Nat.reduceEqDiff, Nat.reduceAdd, Nat.reduceLeDiff], fun j hj => ?_⟩
      rcases Nat.lt_succ_iff_lt_or_eq.1 hj with h | h
      · exact hno j h
      · subst h; exact hb
  · rintro fr1 σ1 ⟨g5, hno⟩ hfr
    have e0_0 := hfr 0 rfl; try (simp only [go_sem, Nat.reduceEqDiff, Nat.reduceAdd, Nat.reduceLeDiff] at e0_0)
    have hh := head_none hno
    try simp only [if_true]
    by_cases h9 : s.length < 9
    · rw [if_pos h9] at hh
      have hd : decide ((s.length : Int) ≥ 9) = false := by simp; omega
      (repeat' first
    | refine w_seq ?_ | refine w_rg ?_ | refine wo_nil ?_ | refine g_skU ?_ | refine g_skT ?_ | refine g_skF ?_
    | ((first | apply s_plain | apply s_void | apply s_guard | apply g_goT | apply g_goF); · simp only [go_sem, Nat.reduceEqDiff, Nat.reduceAdd, Nat.reduceLeDiff, e0_0, hd]; (first | done | rfl))
    | ((first | apply g_T | apply g_F | apply g_gT | apply g_gF); · intro q1_; (first | intro q2_ | have q2_ := q1_); simp only [go_sem, Nat.reduceEqDiff, Nat.reduceAdd, Nat.reduceLeDiff, e0_0, hd, q1_, q2_]; (first | done | rfl))
    | (apply w_condX; · simp only [go_sem, Nat.reduceEqDiff, Nat.reduceAdd, Nat.reduceLeDiff, e0_0, hd]; (first | done | rfl)); (first | refine wcd_T ?_ | refine wcd_F ?_)
    | refine w_skip ?_ | refine w_exit ?_ | refine w_ret ?_
    | fail
    )
      exact ⟨by first | exact .inr rfl | exact .inr trivial | exact .inl rfl, by simp only [go_sem, Nat.reduceEqDiff, Nat.reduceAdd, Nat.reduceLeDiff, retOf, resOf, hh]; first | done | rfl⟩
    · rw [if_neg h9] at hh
      have hd : decide ((s.length : Int) ≥ 9) = true := by simp; omega
      (repeat' first
    | refine w_seq ?_ | refine w_rg ?_ | refine wo_nil ?_ | refine g_skU ?_ | refine g_skT ?_ | refine g_skF ?_
    | ((first | apply s_plain | apply s_void | apply s_guard | apply g_goT | apply g_goF); · simp only [go_sem, Nat.reduceEqDiff, Nat.reduceAdd, Nat.reduceLeDiff, e0_0, hd]; (first | done | rfl))
    | ((first | apply g_T | apply g_F | apply g_gT | apply g_gF); · intro q1_; (first | intro q2_ | have q2_ := q1_); simp only [go_sem, Nat.reduceEqDiff, Nat.reduceAdd, Nat.reduceLeDiff, e0_0, hd, q1_, q2_]; (first | done | rfl))
    | (apply w_condX; · simp only [go_sem, Nat.reduceEqDiff, Nat.reduceAdd, Nat.reduceLeDiff, e0_0, hd]; (first | done | rfl)); (first | refine wcd_T ?_ | refine wcd_F ?_)
    | refine w_skip ?_ | refine w_exit ?_ | refine w_ret ?_
    | fail
    )
      exact ⟨by first | exact .inr rfl | exact .inr trivial | exact .inl rfl, by simp only [go_sem, Nat.reduceEqDiff, Nat.reduceAdd, Nat.reduceLeDiff, retOf, resOf, hh]; first | done | rfl⟩
end

end
section
attribute [local go_sem ↓] e_mv e_pick e_bin e_eqs e_beq e_un e_cvi e_str e_s2b e_b2s e_box e_build e_bsl e_ld e_st e_nck e_mkf e_slcS e_slcL e_fa e_fld e_ia e_iaa e_ix e_ixa e_ext e_lenS e_lenL e_mnmx e_app e_appb e_bbx e_msl e_clr e_call e_callv e_icall e_slcA e_mkm e_mput e_mget e_mlen e_mdel pa_t pa_c pa_f slcSP_str hiOf_some hiOf_none loOf_some loOf_none set_eq set_ne
attribute [local go_sem] pv pv1 simple frOf_0 frOf_1 frOf_2 frOf_3 frOf_4 frOf_5 ne_eq not_false_eq_true if_true Bool.false_eq_true if_false pbin punary Option.map_some Option.bind_some pick_and pick_or opt_true Bool.true_and Bool.and_self Bool.and_true Bool.true_or Bool.false_or Bool.not_true Bool.not_false callE pcall_eq List.map_cons List.map_nil List.append_nil List.nil_append List.cons_append mapM_cons' mapM_nil' dep_eq fz_sc fz_sl fz_em fz_fn fz_fp fz_agg fz_tu fz_bx fz_ob Nat.lt_irrefl Nat.zero_lt_one Nat.lt_add_one flat clL cl Bool.or_true okc_sc okc_em okc_sl okc_ob okc_bx okc_fp okc_fn okc_agg okc_ifc cells_agg cells_sc cells_sl cells_em cells_ob cells_fn cells_bx cells_fp List.length_cons List.length_nil Nat.zero_add and_self true_and and_true new_m new_c put_m put_c nil_m nil_c nil_mm new_mm put_mm newM_m newM_c newM_mm putM_m putM_c putM_mm mkeyV_1 mkeyV_2 mapAt_eq deref List.getElem?_cons_zero List.getElem?_cons_succ List.drop_zero List.drop_succ_cons List.take_succ_cons List.take_zero Nat.le_refl false_and and_false decide_true decide_false lenP_em lenP_nil lenP_sl lenP_ob Int.ofNat_zero
def d36 : Def := (.code 2 [.tmp 4] (.seq (.rg false [⟨.some 4, .none, .mv (.c (.bool false))⟩]) (.seq (.seq (.rg false [⟨.some 6, .none, .mv (.t 0)⟩, ⟨.some 7, .none, .lenL (.t 6)⟩, ⟨.some 8, .none, .mv (.t 1)⟩, ⟨.some 9, .none, .lenL (.t 8)⟩, ⟨.some 10, .none, .bin .neq (.t 7) (.t 9)⟩]) (.cond (.t 10) (.seq (.rg false [⟨.some 4, .none, .mv (.c (.bool false))⟩]) .ret) .skip)) (.seq (.seq (.rg false [⟨.some 11, .none, .mv (.t 0)⟩, ⟨.some 12, .none, .lenL (.t 11)⟩, ⟨.some 13, .none, .mv (.c (.int .i64 0))⟩]) (.block 0 (.loop (.seq (.rg false [⟨.some 14, .none, .bin .lss (.t 13) (.t 12)⟩]) (.seq (.cond (.t 14) .skip (.exit 0)) (.seq (.block 1 (.seq (.rg false [⟨.some 15, .none, .mv (.t 13)⟩, ⟨.some 5, .none, .mv (.t 15)⟩]) (.seq (.rg true [⟨.some 16, .none, .mv (.t 0)⟩, ⟨.some 17, .none, .mv (.t 5)⟩, ⟨.some 18, .none, .ia 1 (.t 16) (.t 17)⟩, ⟨.some 19, .none, .ld .none (.t 18)⟩, ⟨.some 20, .none, .mv (.t 1)⟩, ⟨.some 21, .none, .mv (.t 5)⟩, ⟨.some 22, .none, .ia 1 (.t 20) (.t 21)⟩, ⟨.some 23, .none, .ld .none (.t 22)⟩, ⟨.some 24, .none, .bin .neq (.t 19) (.t 23)⟩]) (.cond (.t 24) (.seq (.rg false [⟨.some 4, .none, .mv (.c (.bool false))⟩]) .ret) .skip)))) (.rg false [⟨.some 25, .none, .bin .add (.t 13) (.c (.int .i64 1))⟩, ⟨.some 13, .none, .mv (.t 25)⟩]))))))) (.seq (.rg false [⟨.some 4, .none, .mv (.c (.bool true))⟩]) .ret)))))
section
variable {env : Nat → Option Def} {fr : Fr} {σ σ' σ'' : St} {K : Fr → St → Prop} {Q : X → Fr → St → Prop} {p : PV} {bs : List UInt8}
end

end
section
attribute [local go_sem ↓] e_mv e_pick e_bin e_eqs e_beq e_un e_cvi e_str e_s2b e_b2s e_box e_build e_bsl e_ld e_st e_nck e_mkf e_slcS e_slcL e_fa e_fld e_ia e_iaa e_ix e_ixa e_ext e_lenS e_lenL e_mnmx e_app e_appb e_bbx e_msl e_clr e_call e_callv e_icall e_slcA e_mkm e_mput e_mget e_mlen e_mdel pa_t pa_c pa_f slcSP_str hiOf_some hiOf_none loOf_some loOf_none set_eq set_ne
attribute [local go_sem] pv pv1 simple frOf_0 frOf_1 frOf_2 frOf_3 frOf_4 frOf_5 ne_eq not_false_eq_true if_true Bool.false_eq_true if_false pbin punary Option.map_some Option.bind_some pick_and pick_or opt_true Bool.true_and Bool.and_self Bool.and_true Bool.true_or Bool.false_or Bool.not_true Bool.not_false callE pcall_eq List.map_cons List.map_nil List.append_nil List.nil_append List.cons_append mapM_cons' mapM_nil' dep_eq fz_sc fz_sl fz_em fz_fn fz_fp fz_agg fz_tu fz_bx fz_ob Nat.lt_irrefl Nat.zero_lt_one Nat.lt_add_one flat clL cl Bool.or_true okc_sc okc_em okc_sl okc_ob okc_bx okc_fp okc_fn okc_agg okc_ifc cells_agg cells_sc cells_sl cells_em cells_ob cells_fn cells_bx cells_fp List.length_cons List.length_nil Nat.zero_add and_self true_and and_true new_m new_c put_m put_c nil_m nil_c nil_mm new_mm put_mm newM_m newM_c newM_mm putM_m putM_c putM_mm mkeyV_1 mkeyV_2 mapAt_eq deref List.getElem?_cons_zero List.getElem?_cons_succ List.drop_zero List.drop_succ_cons List.take_succ_cons List.take_zero Nat.le_refl false_and and_false decide_true decide_false lenP_em lenP_nil lenP_sl lenP_ob Int.ofNat_zero splice fillP fillE List.modify_zero_cons List.replicate_succ List.replicate_zero List.set_cons_zero List.drop_zero ba_data ba_size ba_toList ba_extract ba_append List.toList_toArray
def d261 : Def := (.code 1 [.tmp 2, .tmp 3] (.seq (.rg false [⟨.some 2, .none, .mv (.c (.string ⟨#[]⟩))⟩, ⟨.some 3, .none, .mv (.c (.int .i64 0))⟩]) (.seq (.seq (.rg false [⟨.some 6, .none, .mv (.t 0)⟩, ⟨.some 7, .none, .lenS (.t 6)⟩, ⟨.some 8, .none, .bin .gtr (.t 7) (.c (.int .i64 4096))⟩]) (.cond (.t 8) (.seq (.rg false [⟨.some 2, .none, .mv (.c (.string ⟨#[]⟩))⟩, ⟨.some 3, .none, .mv (.c (.int .i64 2))⟩]) .ret) .skip)) (.seq (.rg false [⟨.some 10, .none, .mv (.t 0)⟩, ⟨.some 11, .none, .lenS (.t 10)⟩, ⟨.some 12, .none, .call 269 .pure [.t 11]⟩, ⟨.some 9, .none, .mv (.t 12)⟩, ⟨.some 13, .none, .ext (.t 9) 0⟩, ⟨.some 14, .none, .ext (.t 9) 1⟩, ⟨.some 4, .none, .mv (.t 13)⟩, ⟨.some 5, .none, .mv (.t 14)⟩]) (.seq (.rg false [⟨.some 15, .none, .mv (.t 4)⟩, ⟨.some 16, .none, .mv (.t 0)⟩, ⟨.some 17, .none, .bin .add (.t 15) (.t 16)⟩, ⟨.some 18, .none, .mv (.t 0)⟩, ⟨.some 19, .none, .call 270 .pure [.t 18]⟩, ⟨.some 20, .none, .bin .add (.t 17) (.t 19)⟩, ⟨.some 2, .none, .mv (.t 20)⟩, ⟨.some 3, .none, .mv (.c (.int .i64 0))⟩]) .ret)))))
def d262 : Def := (.code 1 [.tmp 2, .tmp 3] (.seq (.rg false [⟨.some 2, .none, .mv (.c (.slice .none 0 0))⟩, ⟨.some 3, .none, .mv (.c (.int .i64 0))⟩]) (.seq (.rg false [⟨.some 4, .none, .mv (.c (.slice .none 0 0))⟩]) (.seq (.rg false [⟨.some 5, .none, .mv (.c (.int .i64 0))⟩]) (.seq (.block 0 (.loop (.seq (.seq (.rg false [⟨.some 10, .none, .mv (.t 5)⟩, ⟨.some 11, .none, .mv (.t 0)⟩, ⟨.some 12, .none, .lenS (.t 11)⟩, ⟨.some 13, .none, .bin .lss (.t 10) (.t 12)⟩]) (.cond (.t 13) .skip (.exit 0))) (.block 1 (.seq (.rg false [⟨.some 15, .none, .mv (.t 0)⟩, ⟨.some 16, .none, .mv (.t 5)⟩, ⟨.some 17, .none, .slcS (.t 15) (.some (.t 16)) .none⟩, ⟨.some 18, .none, .call 271 .pure [.t 17]⟩, ⟨.some 14, .none, .mv (.t 18)⟩, ⟨.some 19, .none, .ext (.t 14) 0⟩, ⟨.some 20, .none, .ext (.t 14) 1⟩, ⟨.some 21, .none, .ext (.t 14) 2⟩, ⟨.some 6, .none, .mv (.t 19)⟩, ⟨.some 7, .none, .mv (.t 20)⟩, ⟨.some 8, .none, .mv (.t 21)⟩]) (.seq (.seq (.rg false [⟨.some 22, .none, .mv (.t 8)⟩, ⟨.some 23, .none, .bin .neq (.t 22) (.c (.int .i64 0))⟩, ⟨.some 24, .none, .mv (.t 23)⟩, ⟨.some 25, .some (24, false), .mv (.t 6)⟩, ⟨.some 26, .some (24, false), .bin .gtr (.t 25) (.c (.int .i64 4096))⟩, ⟨.some 27, .none, .pick (.t 24) (.c (.bool true)) (.t 26)⟩, ⟨.some 28, .none, .mv (.t 27)⟩, ⟨.some 29, .some (28, false), .mv (.t 6)⟩, ⟨.some 30, .some (28, false), .bin .add (.t 29) (.c (.int .i64 4))⟩, ⟨.some 31, .some (28, false), .mv (.t 0)⟩, ⟨.some 32, .some (28, false), .lenS (.t 31)⟩, ⟨.some 33, .some (28, false), .mv (.t 5)⟩, ⟨.some 34, .some (28, false), .bin .sub (.t 32) (.t 33)⟩, ⟨.some 35, .some (28, false), .mv (.t 7)⟩, ⟨.some 36, .some (28, false), .bin .sub (.t 34) (.t 35)⟩, ⟨.some 37, .some (28, false), .bin .gtr (.t 30) (.t 36)⟩, ⟨.some 38, .none, .pick (.t 28) (.c (.bool true)) (.t 37)⟩]) (.cond (.t 38) (.exit 0) .skip)) (.seq (.rg false [⟨.some 39, .none, .mv (.t 0)⟩, ⟨.some 40, .none, .mv (.t 5)⟩, ⟨.some 41, .none, .mv (.t 7)⟩, ⟨.some 42, .none, .bin .add (.t 40) (.t 41)⟩, ⟨.some 43, .none, .mv (.t 5)⟩, ⟨.some 44, .none, .mv (.t 7)⟩, ⟨.some 45, .none, .bin .add (.t 43) (.t 44)⟩, ⟨.some 46, .none, .mv (.t 6)⟩, ⟨.some 47, .none, .bin .add (.t 45) (.t 46)⟩, ⟨.some 48, .none, .slcS (.t 39) (.some (.t 42)) (.some (.t 47))⟩, ⟨.some 9, .none, .mv (.t 48)⟩]) (.seq (.seq (.rg true [⟨.some 49, .none, .mv (.t 0)⟩, ⟨.some 50, .none, .mv (.t 5)⟩, ⟨.some 51, .none, .mv (.t 7)⟩, ⟨.some 52, .none, .bin .add (.t 50) (.t 51)⟩, ⟨.some 53, .none, .mv (.t 6)⟩, ⟨.some 54, .none, .bin .add (.t 52) (.t 53)⟩, ⟨.some 55, .none, .mv (.t 5)⟩, ⟨.some 56, .none, .mv (.t 7)⟩, ⟨.some 57, .none, .bin .add (.t 55) (.t 56)⟩, ⟨.some 58, .none, .mv (.t 6)⟩, ⟨.some 59, .none, .bin .add (.t 57) (.t 58)⟩, ⟨.some 60, .none, .bin .add (.t 59) (.c (.int .i64 4))⟩, ⟨.some 61, .none, .slcS (.t 49) (.some (.t 54)) (.some (.t 60))⟩, ⟨.some 62, .none, .mv (.t 9)⟩, ⟨.some 63, .none, .call 270 .strict [.t 62]⟩, ⟨.some 64, .none, .bin .neq (.t 61) (.t 63)⟩]) (.cond (.t 64) (.exit 0) .skip)) (.seq (.rg false [⟨.some 65, .none, .mv (.t 4)⟩, ⟨.some 66, .none, .mv (.t 9)⟩, ⟨.some 67, .none, .bsl 1 (.string ⟨#[]⟩) 1 [(0, .t 66)]⟩, ⟨.some 68, .none, .app 1 16 false (.t 65) (.t 67)⟩, ⟨.some 4, .none, .mv (.t 68)⟩]) (.rg false [⟨.some 69, .none, .mv (.t 5)⟩, ⟨.some 70, .none, .mv (.t 7)⟩, ⟨.some 71, .none, .mv (.t 6)⟩, ⟨.some 72, .none, .bin .add (.t 70) (.t 71)⟩, ⟨.some 73, .none, .bin .add (.t 72) (.c (.int .i64 4))⟩, ⟨.some 74, .none, .bin .add (.t 69) (.t 73)⟩, ⟨.some 5, .none, .mv (.t 74)⟩])))))))))) (.seq (.rg false [⟨.some 75, .none, .mv (.t 4)⟩, ⟨.some 76, .none, .mv (.t 5)⟩, ⟨.some 2, .none, .mv (.t 75)⟩, ⟨.some 3, .none, .mv (.t 76)⟩]) .ret))))))
def lie : List (Nat × Def) := [(261, d261), (262, d262)]
section
variable {env : Nat → Option Def} {fr : Fr} {σ σ' σ'' : St} {K : Fr → St → Prop} {Q : X → Fr → St → Prop} {p : PV} {bs : List UInt8}
theorem a261 (B : Has lib env) (C : Has lic env) (E : Has lie env) {d : List UInt8} (hd : d.length ≤ 1000000) : AV env 261 [txt d] = some (if d.length > 4096 then .tu [txt [], .sc (.int .i64 2)] else .tu [txt (recB d), .sc (.int .i64 0)]) := by
  have h1 := a269 C hd
  have h2 := a270 B (s := d) (by omega)
  have hl := encN_len d.length
  have c1 : (encN d.length).length + d.length ≤ 9223372036854775807 := by omega
  have c2 : (encN d.length ++ d).length + (chkB d).length ≤ 9223372036854775807 := by rw [List.length_append, chkB_len]; omega
  refine AV_wp (E (261, d261) (by simp [lie])) rfl ?_
  by_cases h : d.length > 4096
  · have hd : decide ((d.length : Int) > 4096) = true := by simp; omega
    rw [if_pos h]
    (repeat' first
    | refine w_seq ?_ | refine w_rg ?_ | refine wo_nil ?_ | refine g_skU ?_ | refine g_skT ?_ | refine g_skF ?_
    | ((first | apply s_plain | apply s_void | apply s_guard | apply g_goT | apply g_goF); · simp only [go_sem, Nat.reduceEqDiff, Nat.reduceAdd, Nat.reduceLeDiff, hd]; (first | done | rfl))
    | ((first | apply g_T | apply g_F | apply g_gT | apply g_gF); · intro q1_; (first | intro q2_ | have q2_ := q1_); simp only [go_sem, Nat.reduceEqDiff, Nat.reduceAdd, Nat.reduceLeDiff, hd, q1_, q2_]; (first | done | rfl))
    | (apply w_condX; · simp only [go_sem, Nat.reduceEqDiff, Nat.reduceAdd, Nat.reduceLeDiff, hd]; (first | done | rfl)); (first | refine wcd_T ?_ | refine wcd_F ?_)
    | refine w_skip ?_ | refine w_exit ?_ | refine w_ret ?_
    | fail
    )
    exact ⟨by first | exact .inr rfl | exact .inr trivial | exact .inl rfl, by simp only [go_sem, Nat.reduceEqDiff, Nat.reduceAdd, Nat.reduceLeDiff, retOf, resOf]; first | done | rfl⟩
  · have hd : decide ((d.length : Int) > 4096) = false := by simp; omega
    rw [if_neg h]
    (repeat' first
    | refine w_seq ?_ | refine w_rg ?_ | refine wo_nil ?_ | refine g_skU ?_ | refine g_skT ?_ | refine g_skF ?_
    | ((first | apply s_plain | apply s_void | apply s_guard | apply g_goT | apply g_goF); · simp only [go_sem, Nat.reduceEqDiff, Nat.reduceAdd, Nat.reduceLeDiff, hd, h1, h2, c1, c2]; (first | done | rfl))
    | ((first | apply g_T | apply g_F | apply g_gT | apply g_gF); · intro q1_; (first | intro q2_ | have q2_ := q1_); simp only [go_sem, Nat.reduceEqDiff, Nat.reduceAdd, Nat.reduceLeDiff, hd, h1, h2, c1, c2, q1_, q2_]; (first | done | rfl))
    | (apply w_condX; · simp only [go_sem, Nat.reduceEqDiff, Nat.reduceAdd, Nat.reduceLeDiff, hd, h1, h2, c1, c2]; (first | done | rfl)); (first | refine wcd_T ?_ | refine wcd_F ?_)
    | refine w_skip ?_ | refine w_exit ?_ | refine w_ret ?_
    | fail
    )
    exact ⟨by first | exact .inr rfl | exact .inr trivial | exact .inl rfl, by simp only [go_sem, Nat.reduceEqDiff, Nat.reduceAdd, Nat.reduceLeDiff, retOf, resOf, recB]; first | done | rfl⟩
theorem bad_prog {t : List UInt8} {len i : Nat} (hl : t.length = len - i) (hi : i ≤ len) (hs : len ≤ 1000000) :
    (((headN t).2.2 != 0) || decide (((headN t).1 : Int) > 4096) || decide (IntKind.i64.wrap (((headN t).1 : Int) + 4) > IntKind.i64.wrap (IntKind.i64.wrap ((len : Int) - (i : Int)) - ((headN t).2.1 : Int)))) = !goodN t := by
  have w1 : IntKind.i64.wrap ((len : Int) - (i : Int)) = ((t.length : Nat) : Int) := by rw [IntKind.wrap_i64]; omega
  rw [w1]
  by_cases h0 : (headN t).2.2 = 0
  · have he : headN t = ((headN t).1, (headN t).2.1, 0) := by rw [← h0]
    obtain ⟨_, h9, _, _⟩ := headN_ok he
    by_cases hn : (headN t).1 > 4096
    · have e1 : goodN t = false := by
        rw [Bool.eq_false_iff]
        intro h
        have := (good_ok h).2.1
        unfold numN at this
        omega
      have e2 : decide (((headN t).1 : Int) > 4096) = true := by simp; omega
      rw [e1, e2, h0]; rfl
    · have w2 : IntKind.i64.wrap (((headN t).1 : Int) + 4) = (((headN t).1 : Int) + 4) := by rw [IntKind.wrap_i64]; omega
      have w3 : IntKind.i64.wrap (((t.length : Nat) : Int) - ((headN t).2.1 : Int)) = ((t.length : Nat) : Int) - ((headN t).2.1 : Int) := by rw [IntKind.wrap_i64]; omega
      have e2 : decide (((headN t).1 : Int) > 4096) = false := by simp; omega
      have e3 : decide (numN t ≤ 4096) = true := by simp only [decide_eq_true_eq]; unfold numN; omega
      rw [w2, w3, e2, h0]
      unfold goodN
      rw [h0, e3]
      by_cases hx : useN t + numN t + 4 ≤ t.length
      · have e4 : decide (useN t + numN t + 4 ≤ t.length) = true := by simpa using hx
        have e5 : decide ((((headN t).1 : Int) + 4) > ((t.length : Nat) : Int) - ((headN t).2.1 : Int)) = false := by
          unfold useN numN at hx
          simp only [decide_eq_false_iff_not]
          omega
        rw [e4, e5]; rfl
      · have e4 : decide (useN t + numN t + 4 ≤ t.length) = false := by simpa using hx
        have e5 : decide ((((headN t).1 : Int) + 4) > ((t.length : Nat) : Int) - ((headN t).2.1 : Int)) = true := by
          unfold useN numN at hx
          simp only [decide_eq_true_eq]
          omega
        rw [e4, e5]; rfl
  · have e1 : goodN t = false := by
      unfold goodN
      simp [h0]
    have e2 : ((headN t).2.2 != 0) = true := by simpa using h0
    rw [e1, e2]; rfl
theorem a262 (B : Has lib env) (C : Has lic env) (E : Has lie env) {s : List UInt8} (hs : s.length ≤ 1000000) : AV env 262 [txt s] = some (.tu [.sl (txts (scanS s)), .sc (.int .i64 (((scanS s).flatMap recB).length : Int))]) := by
  refine AV_wp (E (262, d262) (by simp [lie])) rfl ?_
  (repeat' first
    | refine w_seq ?_ | refine w_rg ?_ | refine wo_nil ?_ | refine g_skU ?_ | refine g_skT ?_ | refine g_skF ?_
    | ((first | apply s_plain | apply s_void | apply s_guard | apply g_goT | apply g_goF); · simp only [go_sem, Nat.reduceEqDiff, Nat.reduceAdd, Nat.reduceLeDiff]; (first | done | rfl))
    | ((first | apply g_T | apply g_F | apply g_gT | apply g_gF); · intro q1_; (first | intro q2_ | have q2_ := q1_); simp only [go_sem, Nat.reduceEqDiff, Nat.reduceAdd, Nat.reduceLeDiff, q1_, q2_]; (first | done | rfl))
    | (apply w_condX; · simp only [go_sem, Nat.reduceEqDiff, Nat.reduceAdd, Nat.reduceLeDiff]; (first | done | rfl)); (first | refine wcd_T ?_ | refine wcd_F ?_)
    | refine w_skip ?_ | refine w_exit ?_ | refine w_ret ?_
    | fail
    )
  refine w_block (w_loopF (fun m fr σ => ∃ (i : Nat) (out : List (List UInt8)), m = s.length - i ∧ i ≤ s.length ∧ out.length ≤ i ∧ fr 5 = .sc (.int .i64 (i : Int)) ∧ Gat σ [68] 1 false (fr 4) (txts out) ∧ scanS s = out ++ scanS (s.drop i) ∧ i = (out.flatMap recB).length) ?_ s.length ?_)
  · rintro m fr1 σ1 ⟨i, out, rfl, hi, hol, f5, hg, hsc, hil⟩ hfr
    have f0_0 := hfr 0 rfl; try (simp only [go_sem, Nat.reduceEqDiff, Nat.reduceAdd, Nat.reduceLeDiff] at f0_0)
    have fin : ∀ {x : List (List UInt8)}, scanS s = out ++ x → x = [] → (scanS s) = out := fun h h0 => by rw [h, h0, List.append_nil]
    by_cases hlt : i < s.length
    · have hd : decide ((i : Int) < (s.length : Int)) = true := by simp; omega
      have hne : s.drop i ≠ [] := by
        intro h
        have := congrArg List.length h
        simp at this; omega
      have hdl : (s.drop i).length = s.length - i := List.length_drop
      have b1 : bound s.length (.sc (.int .i64 (i : Int))) = some i := bound_nat (by omega)
      have hdt : (s.take s.length).drop i = s.drop i := by rw [List.take_length]
      have h271 := a271 C (s := s.drop i) (by omega)
      have hse := scanS_eq (s.drop i)
      rw [if_neg hne] at hse
      (repeat' first
    | refine w_seq ?_ | refine w_rg ?_ | refine wo_nil ?_ | refine g_skU ?_ | refine g_skT ?_ | refine g_skF ?_
    | ((first | apply s_plain | apply s_void | apply s_guard | apply g_goT | apply g_goF); · simp only [go_sem, Nat.reduceEqDiff, Nat.reduceAdd, Nat.reduceLeDiff, f0_0, f5, hd]; (first | done | rfl))
    | ((first | apply g_T | apply g_F | apply g_gT | apply g_gF); · intro q1_; (first | intro q2_ | have q2_ := q1_); simp only [go_sem, Nat.reduceEqDiff, Nat.reduceAdd, Nat.reduceLeDiff, f0_0, f5, hd, q1_, q2_]; (first | done | rfl))
    | (apply w_condX; · simp only [go_sem, Nat.reduceEqDiff, Nat.reduceAdd, Nat.reduceLeDiff, f0_0, f5, hd]; (first | done | rfl)); (first | refine wcd_T ?_ | refine wcd_F ?_)
    | refine w_skip ?_ | refine w_exit ?_ | refine w_ret ?_
    | fail
    )
      refine w_block ?_
      (repeat' first
    | refine w_seq ?_ | refine w_rg ?_ | refine wo_nil ?_ | refine g_skU ?_ | refine g_skT ?_ | refine g_skF ?_
    | ((first | apply s_plain | apply s_void | apply s_guard | apply g_goT | apply g_goF); · simp only [go_sem, Nat.reduceEqDiff, Nat.reduceAdd, Nat.reduceLeDiff, f0_0, f5, b1, hdt, h271]; (first | done | rfl))
    | ((first | apply g_T | apply g_F | apply g_gT | apply g_gF); · intro q1_; (first | intro q2_ | have q2_ := q1_); simp only [go_sem, Nat.reduceEqDiff, Nat.reduceAdd, Nat.reduceLeDiff, f0_0, f5, b1, hdt, h271, q1_, q2_]; (first | done | rfl))
    | fail
    )
      cases hgd : goodN (s.drop i) with
      | false =>
        rw [hgd] at hse
        have hend := fin hsc hse
        have hbad := bad_prog hdl hi hs
        rw [hgd, Bool.not_false] at hbad
        (repeat' first
    | refine w_seq ?_ | refine w_rg ?_ | refine wo_nil ?_ | refine g_skU ?_ | refine g_skT ?_ | refine g_skF ?_
    | ((first | apply s_plain | apply s_void | apply s_guard | apply g_goT | apply g_goF); · simp only [go_sem, Nat.reduceEqDiff, Nat.reduceAdd, Nat.reduceLeDiff, f0_0, f5, hbad]; (first | done | rfl))
    | ((first | apply g_T | apply g_F | apply g_gT | apply g_gF); · intro q1_; (first | intro q2_ | have q2_ := q1_); simp only [go_sem, Nat.reduceEqDiff, Nat.reduceAdd, Nat.reduceLeDiff, f0_0, f5, hbad, q1_, q2_]; (first | done | rfl))
    | (apply w_condX; · simp only [go_sem, Nat.reduceEqDiff, Nat.reduceAdd, Nat.reduceLeDiff, f0_0, f5, hbad]; (first | done | rfl)); (first | refine wcd_T ?_ | refine wcd_F ?_)
    | refine w_skip ?_ | refine w_exit ?_ | refine w_ret ?_
    | fail
    )
        try simp only [if_true]
        try show Wp _ _ _ _ _
        have hfz := gat_fzd hg (txts_fz σ1 9 _)
        (repeat' first
    | refine w_seq ?_ | refine w_rg ?_ | refine wo_nil ?_ | refine g_skU ?_ | refine g_skT ?_ | refine g_skF ?_
    | ((first | apply s_plain | apply s_void | apply s_guard | apply g_goT | apply g_goF); · simp only [go_sem, Nat.reduceEqDiff, Nat.reduceAdd, Nat.reduceLeDiff, f5]; (first | done | rfl))
    | ((first | apply g_T | apply g_F | apply g_gT | apply g_gF); · intro q1_; (first | intro q2_ | have q2_ := q1_); simp only [go_sem, Nat.reduceEqDiff, Nat.reduceAdd, Nat.reduceLeDiff, f5, q1_, q2_]; (first | done | rfl))
    | (apply w_condX; · simp only [go_sem, Nat.reduceEqDiff, Nat.reduceAdd, Nat.reduceLeDiff, f5]; (first | done | rfl)); (first | refine wcd_T ?_ | refine wcd_F ?_)
    | refine w_skip ?_ | refine w_exit ?_ | refine w_ret ?_
    | fail
    )
        exact ⟨by first | exact .inr rfl | exact .inr trivial | exact .inl rfl, by simp only [go_sem, Nat.reduceEqDiff, Nat.reduceAdd, Nat.reduceLeDiff, retOf, resOf, hfz, hend, hil]; first | done | rfl⟩
        all_goals first | done | rfl
      | true =>
        have hbad := bad_prog hdl hi hs
        rw [hgd, Bool.not_true] at hbad
        obtain ⟨q1, q2, q3, q4, q5⟩ := good_ok hgd
        rw [q1] at hbad
        have w1 : IntKind.i64.wrap ((i : Int) + ((useN (s.drop i) : Nat) : Int)) = ((i + useN (s.drop i) : Nat) : Int) := by rw [IntKind.wrap_i64]; omega
        have w2 : IntKind.i64.wrap (((i + useN (s.drop i) : Nat) : Int) + ((numN (s.drop i) : Nat) : Int)) = ((i + useN (s.drop i) + numN (s.drop i) : Nat) : Int) := by rw [IntKind.wrap_i64]; omega
        have w3 : IntKind.i64.wrap (((i + useN (s.drop i) + numN (s.drop i) : Nat) : Int) + 4) = ((i + useN (s.drop i) + numN (s.drop i) + 4 : Nat) : Int) := by rw [IntKind.wrap_i64]; omega
        have b2 : bound s.length (.sc (.int .i64 ((i + useN (s.drop i) + numN (s.drop i) : Nat) : Int))) = some (i + useN (s.drop i) + numN (s.drop i)) := bound_nat (by omega)
        have b3 : bound (i + useN (s.drop i) + numN (s.drop i)) (.sc (.int .i64 ((i + useN (s.drop i) : Nat) : Int))) = some (i + useN (s.drop i)) := bound_nat (by omega)
        have b4 : bound s.length (.sc (.int .i64 ((i + useN (s.drop i) + numN (s.drop i) + 4 : Nat) : Int))) = some (i + useN (s.drop i) + numN (s.drop i) + 4) := bound_nat (by omega)
        have b5 : bound (i + useN (s.drop i) + numN (s.drop i) + 4) (.sc (.int .i64 ((i + useN (s.drop i) + numN (s.drop i) : Nat) : Int))) = some (i + useN (s.drop i) + numN (s.drop i)) := bound_nat (by omega)
        have hda : (s.take (i + useN (s.drop i) + numN (s.drop i))).drop (i + useN (s.drop i)) = dataN (s.drop i) := by
          unfold dataN
          rw [List.drop_drop, List.drop_take]
          congr 1
          omega
        have hch : (s.take (i + useN (s.drop i) + numN (s.drop i) + 4)).drop (i + useN (s.drop i) + numN (s.drop i)) = ((s.drop i).drop (useN (s.drop i) + numN (s.drop i))).take 4 := by
          rw [List.drop_drop, List.drop_take, Nat.add_assoc i]
          congr 1
          omega
        have h270 := a270 B (s := dataN (s.drop i)) (by rw [dataN_len hgd]; omega)
        (repeat' first
    | refine w_seq ?_ | refine w_rg ?_ | refine wo_nil ?_ | refine g_skU ?_ | refine g_skT ?_ | refine g_skF ?_
    | ((first | apply s_plain | apply s_void | apply s_guard | apply g_goT | apply g_goF); · simp only [go_sem, Nat.reduceEqDiff, Nat.reduceAdd, Nat.reduceLeDiff, f0_0, q1, hbad, f5, w1, w2, b2, b3, hda]; (first | done | rfl))
    | ((first | apply g_T | apply g_F | apply g_gT | apply g_gF); · intro q1_; (first | intro q2_ | have q2_ := q1_); simp only [go_sem, Nat.reduceEqDiff, Nat.reduceAdd, Nat.reduceLeDiff, f0_0, q1, hbad, f5, w1, w2, b2, b3, hda, q1_, q2_]; (first | done | rfl))
    | (apply w_condX; · simp only [go_sem, Nat.reduceEqDiff, Nat.reduceAdd, Nat.reduceLeDiff, f0_0, q1, hbad, f5, w1, w2, b2, b3, hda]; (first | done | rfl)); (first | refine wcd_T ?_ | refine wcd_F ?_)
    | refine w_skip ?_ | refine w_exit ?_ | refine w_ret ?_
    | fail
    )
        have hfit : (!(((s.drop i).drop (useN (s.drop i) + numN (s.drop i))).take 4 == chkB (dataN (s.drop i)))) = !fitN (s.drop i) := by
          unfold fitN
          rw [Bool.eq_iff_iff]
          simp
        cases hft : fitN (s.drop i) with
        | false =>
          rw [hgd, hft] at hse
          have hend := fin hsc hse
          rw [hft, Bool.not_false] at hfit
          (repeat' first
    | refine w_seq ?_ | refine w_rg ?_ | refine wo_nil ?_ | refine g_skU ?_ | refine g_skT ?_ | refine g_skF ?_
    | ((first | apply s_plain | apply s_void | apply s_guard | apply g_goT | apply g_goF); · simp only [go_sem, Nat.reduceEqDiff, Nat.reduceAdd, Nat.reduceLeDiff, f0_0, f5, w1, w2, w3, b4, b5, hch, h270, hfit]; (first | done | rfl))
    | ((first | apply g_T | apply g_F | apply g_gT | apply g_gF); · intro q1_; (first | intro q2_ | have q2_ := q1_); simp only [go_sem, Nat.reduceEqDiff, Nat.reduceAdd, Nat.reduceLeDiff, f0_0, f5, w1, w2, w3, b4, b5, hch, h270, hfit, q1_, q2_]; (first | done | rfl))
    | (apply w_condX; · simp only [go_sem, Nat.reduceEqDiff, Nat.reduceAdd, Nat.reduceLeDiff, f0_0, f5, w1, w2, w3, b4, b5, hch, h270, hfit]; (first | done | rfl)); (first | refine wcd_T ?_ | refine wcd_F ?_)
    | refine w_skip ?_ | refine w_exit ?_ | refine w_ret ?_
    | fail
    )
          try simp only [if_true]
          try show Wp _ _ _ _ _
          have hfz := gat_fzd hg (txts_fz σ1 9 _)
          (repeat' first
    | refine w_seq ?_ | refine w_rg ?_ | refine wo_nil ?_ | refine g_skU ?_ | refine g_skT ?_ | refine g_skF ?_
    | ((first | apply s_plain | apply s_void | apply s_guard | apply g_goT | apply g_goF); · simp only [go_sem, Nat.reduceEqDiff, Nat.reduceAdd, Nat.reduceLeDiff, f5]; (first | done | rfl))
    | ((first | apply g_T | apply g_F | apply g_gT | apply g_gF); · intro q1_; (first | intro q2_ | have q2_ := q1_); simp only [go_sem, Nat.reduceEqDiff, Nat.reduceAdd, Nat.reduceLeDiff, f5, q1_, q2_]; (first | done | rfl))
    | (apply w_condX; · simp only [go_sem, Nat.reduceEqDiff, Nat.reduceAdd, Nat.reduceLeDiff, f5]; (first | done | rfl)); (first | refine wcd_T ?_ | refine wcd_F ?_)
    | refine w_skip ?_ | refine w_exit ?_ | refine w_ret ?_
    | fail
    )
          exact ⟨by first | exact .inr rfl | exact .inr trivial | exact .inl rfl, by simp only [go_sem, Nat.reduceEqDiff, Nat.reduceAdd, Nat.reduceLeDiff, retOf, resOf, hfz, hend, hil]; first | done | rfl⟩
          all_goals first | done | rfl
        | true =>
          rw [hgd, hft] at hse
          rw [hft, Bool.not_true] at hfit
          have w4 : IntKind.i64.wrap (((useN (s.drop i) : Nat) : Int) + ((numN (s.drop i) : Nat) : Int)) = ((useN (s.drop i) + numN (s.drop i) : Nat) : Int) := by rw [IntKind.wrap_i64]; omega
          have w5 : IntKind.i64.wrap (((useN (s.drop i) + numN (s.drop i) : Nat) : Int) + 4) = ((useN (s.drop i) + numN (s.drop i) + 4 : Nat) : Int) := by rw [IntKind.wrap_i64]; omega
          have w6 : IntKind.i64.wrap ((i : Int) + ((useN (s.drop i) + numN (s.drop i) + 4 : Nat) : Int)) = ((i + (useN (s.drop i) + numN (s.drop i) + 4) : Nat) : Int) := by rw [IntKind.wrap_i64]; omega
          (repeat' first
    | refine w_seq ?_ | refine w_rg ?_ | refine wo_nil ?_ | refine g_skU ?_ | refine g_skT ?_ | refine g_skF ?_
    | ((first | apply s_plain | apply s_void | apply s_guard | apply g_goT | apply g_goF); · simp only [go_sem, Nat.reduceEqDiff, Nat.reduceAdd, Nat.reduceLeDiff, f0_0, f5, w1, w2, w3, b4, b5, hch, h270, hfit]; (first | done | rfl))
    | ((first | apply g_T | apply g_F | apply g_gT | apply g_gF); · intro q1_; (first | intro q2_ | have q2_ := q1_); simp only [go_sem, Nat.reduceEqDiff, Nat.reduceAdd, Nat.reduceLeDiff, f0_0, f5, w1, w2, w3, b4, b5, hch, h270, hfit, q1_, q2_]; (first | done | rfl))
    | (apply w_condX; · simp only [go_sem, Nat.reduceEqDiff, Nat.reduceAdd, Nat.reduceLeDiff, f0_0, f5, w1, w2, w3, b4, b5, hch, h270, hfit]; (first | done | rfl)); (first | refine wcd_T ?_ | refine wcd_F ?_)
    | refine w_skip ?_ | refine w_exit ?_ | refine w_ret ?_
    | fail
    )
          refine s_gat (os := [68]) (w := false) (xs := txts out) (e := txt (dataN (s.drop i))) (by simp only [go_sem, Nat.reduceEqDiff, Nat.reduceAdd, Nat.reduceLeDiff]; exact hg.new _) (by decide) (by simp only [go_sem, Nat.reduceEqDiff, Nat.reduceAdd, Nat.reduceLeDiff, srcOf, elemsOf]) rfl rfl (by rw [txts_len]; omega) ?_
          intro p2 σ2 hg2
          have hg3 : Gat σ2 [68] 1 false p2 (txts (out ++ [dataN (s.drop i)])) := by
            rw [txts, List.map_append, List.map_singleton]; exact hg2
          (repeat' first
    | refine w_seq ?_ | refine w_rg ?_ | refine wo_nil ?_ | refine g_skU ?_ | refine g_skT ?_ | refine g_skF ?_
    | ((first | apply s_plain | apply s_void | apply s_guard | apply g_goT | apply g_goF); · simp only [go_sem, Nat.reduceEqDiff, Nat.reduceAdd, Nat.reduceLeDiff, f5, q1, w4, w5, w6]; (first | done | rfl))
    | ((first | apply g_T | apply g_F | apply g_gT | apply g_gF); · intro q1_; (first | intro q2_ | have q2_ := q1_); simp only [go_sem, Nat.reduceEqDiff, Nat.reduceAdd, Nat.reduceLeDiff, f5, q1, w4, w5, w6, q1_, q2_]; (first | done | rfl))
    | (apply w_condX; · simp only [go_sem, Nat.reduceEqDiff, Nat.reduceAdd, Nat.reduceLeDiff, f5, q1, w4, w5, w6]; (first | done | rfl)); (first | refine wcd_T ?_ | refine wcd_F ?_)
    | refine w_skip ?_ | refine w_exit ?_ | refine w_ret ?_
    | fail
    )
          try simp only [if_true]
          try show Wp _ _ _ _ _
          refine ⟨s.length - (i + (useN (s.drop i) + numN (s.drop i) + 4)), by omega, i + (useN (s.drop i) + numN (s.drop i) + 4), out ++ [dataN (s.drop i)], rfl, by omega, by rw [List.length_append]; simp; omega, by simp only [go_sem, Nat.reduceEqDiff, Nat.reduceAdd, Nat.reduceLeDiff, q1, w4, w5, w6], by simp only [go_sem, Nat.reduceEqDiff, Nat.reduceAdd, Nat.reduceLeDiff]; exact hg3, ?_, ?_⟩
          · rw [hsc, hse]
            unfold restN
            rw [List.drop_drop, List.append_assoc]
            rfl
          · rw [List.flatMap_append, List.length_append, ← hil, List.flatMap_singleton, recB_len hgd]
    · have hil2 : i = s.length := by omega
      have hd : decide ((i : Int) < (s.length : Int)) = false := by simp; omega
      have hend := fin hsc (by rw [hil2, List.drop_length]; exact scanS_nil)
      (repeat' first
    | refine w_seq ?_ | refine w_rg ?_ | refine wo_nil ?_ | refine g_skU ?_ | refine g_skT ?_ | refine g_skF ?_
    | ((first | apply s_plain | apply s_void | apply s_guard | apply g_goT | apply g_goF); · simp only [go_sem, Nat.reduceEqDiff, Nat.reduceAdd, Nat.reduceLeDiff, f0_0, f5, hd]; (first | done | rfl))
    | ((first | apply g_T | apply g_F | apply g_gT | apply g_gF); · intro q1_; (first | intro q2_ | have q2_ := q1_); simp only [go_sem, Nat.reduceEqDiff, Nat.reduceAdd, Nat.reduceLeDiff, f0_0, f5, hd, q1_, q2_]; (first | done | rfl))
    | (apply w_condX; · simp only [go_sem, Nat.reduceEqDiff, Nat.reduceAdd, Nat.reduceLeDiff, f0_0, f5, hd]; (first | done | rfl)); (first | refine wcd_T ?_ | refine wcd_F ?_)
    | refine w_skip ?_ | refine w_exit ?_ | refine w_ret ?_
    | fail
    )
      try simp only [if_true]
      try show Wp _ _ _ _ _
      have hfz := gat_fzd hg (txts_fz σ1 9 _)
      (repeat' first
    | refine w_seq ?_ | refine w_rg ?_ | refine wo_nil ?_ | refine g_skU ?_ | refine g_skT ?_ | refine g_skF ?_
    | ((first | apply s_plain | apply s_void | apply s_guard | apply g_goT | apply g_goF); · simp only [go_sem, Nat.reduceEqDiff, Nat.reduceAdd, Nat.reduceLeDiff, f5]; (first | done | rfl))
    | ((first | apply g_T | apply g_F | apply g_gT | apply g_gF); · intro q1_; (first | intro q2_ | have q2_ := q1_); simp only [go_sem, Nat.reduceEqDiff, Nat.reduceAdd, Nat.reduceLeDiff, f5, q1_, q2_]; (first | done | rfl))
    | (apply w_condX; · simp only [go_sem, Nat.reduceEqDiff, Nat.reduceAdd, Nat.reduceLeDiff, f5]; (first | done | rfl)); (first | refine wcd_T ?_ | refine wcd_F ?_)
    | refine w_skip ?_ | refine w_exit ?_ | refine w_ret ?_
    | fail
    )
      exact ⟨by first | exact .inr rfl | exact .inr trivial | exact .inl rfl, by simp only [go_sem, Nat.reduceEqDiff, Nat.reduceAdd, Nat.reduceLeDiff, retOf, resOf, hfz, hend, hil]; first | done | rfl⟩
      all_goals first | done | rfl
  · exact ⟨0, [], by omega, by omega, by simp, by simp only [go_sem, Nat.reduceEqDiff, Nat.reduceAdd, Nat.reduceLeDiff]; first | done | rfl, by simp only [go_sem, Nat.reduceEqDiff, Nat.reduceAdd, Nat.reduceLeDiff]; exact .em, by simp, rfl⟩
end

def lii : List (Nat × Def) := [(36, d36)]
section
variable {env : Nat → Option Def} {fr : Fr} {σ σ' σ'' : St} {K : Fr → St → Prop} {Q : X → Fr → St → Prop} {p : PV} {bs : List UInt8}
theorem a36s (D : Has lii env) {a b : List (List UInt8)} (hn : a.length ≤ 9223372036854775807) : AV env 36 [.sl (txts a), .sl (txts b)] = some (.sc (.bool (decide (a = b)))) := by
  refine AV_wp (D (36, d36) (by simp [lii])) rfl ?_
  have hla := txts_len a
  have hlb := txts_len b
  (repeat' first
    | refine w_seq ?_ | refine w_rg ?_ | refine wo_nil ?_ | refine g_skU ?_ | refine g_skT ?_ | refine g_skF ?_
    | ((first | apply s_plain | apply s_void | apply s_guard | apply g_goT | apply g_goF); · simp only [go_sem, Nat.reduceEqDiff, Nat.reduceAdd, Nat.reduceLeDiff, hla, hlb]; (first | done | rfl))
    | ((first | apply g_T | apply g_F | apply g_gT | apply g_gF); · intro q1_; (first | intro q2_ | have q2_ := q1_); simp only [go_sem, Nat.reduceEqDiff, Nat.reduceAdd, Nat.reduceLeDiff, hla, hlb, q1_, q2_]; (first | done | rfl))
    | fail
    )
  by_cases hl : a.length = b.length
  · have hc : ((a.length : Int) != (b.length : Int)) = false := by rw [hl]; simp
    (repeat' first
    | refine w_seq ?_ | refine w_rg ?_ | refine wo_nil ?_ | refine g_skU ?_ | refine g_skT ?_ | refine g_skF ?_
    | ((first | apply s_plain | apply s_void | apply s_guard | apply g_goT | apply g_goF); · simp only [go_sem, Nat.reduceEqDiff, Nat.reduceAdd, Nat.reduceLeDiff, hc]; (first | done | rfl))
    | ((first | apply g_T | apply g_F | apply g_gT | apply g_gF); · intro q1_; (first | intro q2_ | have q2_ := q1_); simp only [go_sem, Nat.reduceEqDiff, Nat.reduceAdd, Nat.reduceLeDiff, hc, q1_, q2_]; (first | done | rfl))
    | (apply w_condX; · simp only [go_sem, Nat.reduceEqDiff, Nat.reduceAdd, Nat.reduceLeDiff, hc]; (first | done | rfl)); (first | refine wcd_T ?_ | refine wcd_F ?_)
    | refine w_skip ?_ | refine w_exit ?_ | refine w_ret ?_
    | fail
    )
    (repeat' first
    | refine w_seq ?_ | refine w_rg ?_ | refine wo_nil ?_ | refine g_skU ?_ | refine g_skT ?_ | refine g_skF ?_
    | ((first | apply s_plain | apply s_void | apply s_guard | apply g_goT | apply g_goF); · simp only [go_sem, Nat.reduceEqDiff, Nat.reduceAdd, Nat.reduceLeDiff, hla]; (first | done | rfl))
    | ((first | apply g_T | apply g_F | apply g_gT | apply g_gF); · intro q1_; (first | intro q2_ | have q2_ := q1_); simp only [go_sem, Nat.reduceEqDiff, Nat.reduceAdd, Nat.reduceLeDiff, hla, q1_, q2_]; (first | done | rfl))
    | fail
    )
    refine w_block (w_rangeF a.length hn (fun i fr σ => ∀ j, j < i → a[j]? = b[j]?) ⟨by decide, rfl, rfl⟩ (fun _ _ _ _ h => ⟨h, h, h⟩) (fun j hj => by omega) (by simp only [go_sem, Nat.reduceEqDiff, Nat.reduceAdd, Nat.reduceLeDiff]; first | done | rfl) (by simp only [go_sem, Nat.reduceEqDiff, Nat.reduceAdd, Nat.reduceLeDiff, hla]; first | done | rfl) ?_ ?_)
    · rintro i fr1 σ1 hi h3 hti hfr
      have f0_0 := hfr 0 rfl; have f0_1 := hfr 1 rfl; have f0_12 := hfr 12 rfl; try (simp only [go_sem, Nat.reduceEqDiff, Nat.reduceAdd, Nat.reduceLeDiff] at f0_0); try (simp only [go_sem, Nat.reduceEqDiff, Nat.reduceAdd, Nat.reduceLeDiff] at f0_1); try (simp only [go_sem, Nat.reduceEqDiff, Nat.reduceAdd, Nat.reduceLeDiff] at f0_12)
      have hi2 : i < b.length := by omega
      have qa := List.getElem?_eq_getElem hi
      have qb := List.getElem?_eq_getElem hi2
      have hx := txts_at qa
      have hy := txts_at qb
      have e1 : (0 : Int) ≤ (i : Int) ∧ (i : Int) < (a.length : Int) := by omega
      have e2 : (0 : Int) ≤ (i : Int) ∧ (i : Int) < (b.length : Int) := by omega
      refine w_block ?_
      (repeat' first
    | refine w_seq ?_ | refine w_rg ?_ | refine wo_nil ?_ | refine g_skU ?_ | refine g_skT ?_ | refine g_skF ?_
    | ((first | apply s_plain | apply s_void | apply s_guard | apply g_goT | apply g_goF); · simp only [go_sem, Nat.reduceEqDiff, Nat.reduceAdd, Nat.reduceLeDiff, f0_0, f0_1, f0_12, hti, e1, e2, hla, hlb, Int.toNat_natCast, hx, hy]; (first | done | rfl))
    | ((first | apply g_T | apply g_F | apply g_gT | apply g_gF); · intro q1_; (first | intro q2_ | have q2_ := q1_); simp only [go_sem, Nat.reduceEqDiff, Nat.reduceAdd, Nat.reduceLeDiff, f0_0, f0_1, f0_12, hti, e1, e2, hla, hlb, Int.toNat_natCast, hx, hy, q1_, q2_]; (first | done | rfl))
    | fail
    )
      by_cases he : a[i] = b[i]
      · have hb : (!(a[i] == b[i])) = false := by simp [he]
        (repeat' first
    | refine w_seq ?_ | refine w_rg ?_ | refine wo_nil ?_ | refine g_skU ?_ | refine g_skT ?_ | refine g_skF ?_
    | ((first | apply s_plain | apply s_void | apply s_guard | apply g_goT | apply g_goF); · simp only [go_sem, Nat.reduceEqDiff, Nat.reduceAdd, Nat.reduceLeDiff, hb]; (first | done | rfl))
    | ((first | apply g_T | apply g_F | apply g_gT | apply g_gF); · intro q1_; (first | intro q2_ | have q2_ := q1_); simp only [go_sem, Nat.reduceEqDiff, Nat.reduceAdd, Nat.reduceLeDiff, hb, q1_, q2_]; (first | done | rfl))
    | (apply w_condX; · simp only [go_sem, Nat.reduceEqDiff, Nat.reduceAdd, Nat.reduceLeDiff, hb]; (first | done | rfl)); (first | refine wcd_T ?_ | refine wcd_F ?_)
    | refine w_skip ?_ | refine w_exit ?_ | refine w_ret ?_
    | fail
    )
        intro j hj
        by_cases hji : j = i
        · rw [hji, qa, qb, he]
        · exact h3 j (by omega)
      · have hb : (!(a[i] == b[i])) = true := by simp [he]
        have hne : a ≠ b := fun h => he (by subst h; rfl)
        (repeat' first
    | refine w_seq ?_ | refine w_rg ?_ | refine wo_nil ?_ | refine g_skU ?_ | refine g_skT ?_ | refine g_skF ?_
    | ((first | apply s_plain | apply s_void | apply s_guard | apply g_goT | apply g_goF); · simp only [go_sem, Nat.reduceEqDiff, Nat.reduceAdd, Nat.reduceLeDiff, hb]; (first | done | rfl))
    | ((first | apply g_T | apply g_F | apply g_gT | apply g_gF); · intro q1_; (first | intro q2_ | have q2_ := q1_); simp only [go_sem, Nat.reduceEqDiff, Nat.reduceAdd, Nat.reduceLeDiff, hb, q1_, q2_]; (first | done | rfl))
    | (apply w_condX; · simp only [go_sem, Nat.reduceEqDiff, Nat.reduceAdd, Nat.reduceLeDiff, hb]; (first | done | rfl)); (first | refine wcd_T ?_ | refine wcd_F ?_)
    | refine w_skip ?_ | refine w_exit ?_ | refine w_ret ?_
    | fail
    )
        exact ⟨by first | exact .inr rfl | exact .inr trivial | exact .inl rfl, by simp only [go_sem, Nat.reduceEqDiff, Nat.reduceAdd, Nat.reduceLeDiff, retOf, resOf, decide_eq_false hne]; first | done | rfl⟩
    · rintro fr1 σ1 h3 hfr
      try simp only [if_true]
      have heq : a = b := List.ext_getElem? fun i => by
        by_cases hi : i < a.length
        · exact h3 i hi
        · rw [List.getElem?_eq_none (by omega), List.getElem?_eq_none (by omega)]
      (repeat' first
    | refine w_seq ?_ | refine w_rg ?_ | refine wo_nil ?_ | refine g_skU ?_ | refine g_skT ?_ | refine g_skF ?_
    | ((first | apply s_plain | apply s_void | apply s_guard | apply g_goT | apply g_goF); · simp only [go_sem, Nat.reduceEqDiff, Nat.reduceAdd, Nat.reduceLeDiff]; (first | done | rfl))
    | ((first | apply g_T | apply g_F | apply g_gT | apply g_gF); · intro q1_; (first | intro q2_ | have q2_ := q1_); simp only [go_sem, Nat.reduceEqDiff, Nat.reduceAdd, Nat.reduceLeDiff, q1_, q2_]; (first | done | rfl))
    | (apply w_condX; · simp only [go_sem, Nat.reduceEqDiff, Nat.reduceAdd, Nat.reduceLeDiff]; (first | done | rfl)); (first | refine wcd_T ?_ | refine wcd_F ?_)
    | refine w_skip ?_ | refine w_exit ?_ | refine w_ret ?_
    | fail
    )
      exact ⟨by first | exact .inr rfl | exact .inr trivial | exact .inl rfl, by simp only [go_sem, Nat.reduceEqDiff, Nat.reduceAdd, Nat.reduceLeDiff, retOf, resOf, decide_eq_true heq]; first | done | rfl⟩
  · have hc : ((a.length : Int) != (b.length : Int)) = true := by simp; omega
    have hne : a ≠ b := fun h => hl (by rw [h])
    (repeat' first
    | refine w_seq ?_ | refine w_rg ?_ | refine wo_nil ?_ | refine g_skU ?_ | refine g_skT ?_ | refine g_skF ?_
    | ((first | apply s_plain | apply s_void | apply s_guard | apply g_goT | apply g_goF); · simp only [go_sem, Nat.reduceEqDiff, Nat.reduceAdd, Nat.reduceLeDiff, hc]; (first | done | rfl))
    | ((first | apply g_T | apply g_F | apply g_gT | apply g_gF); · intro q1_; (first | intro q2_ | have q2_ := q1_); simp only [go_sem, Nat.reduceEqDiff, Nat.reduceAdd, Nat.reduceLeDiff, hc, q1_, q2_]; (first | done | rfl))
    | (apply w_condX; · simp only [go_sem, Nat.reduceEqDiff, Nat.reduceAdd, Nat.reduceLeDiff, hc]; (first | done | rfl)); (first | refine wcd_T ?_ | refine wcd_F ?_)
    | refine w_skip ?_ | refine w_exit ?_ | refine w_ret ?_
    | fail
    )
    exact ⟨by first | exact .inr rfl | exact .inr trivial | exact .inl rfl, by simp only [go_sem, Nat.reduceEqDiff, Nat.reduceAdd, Nat.reduceLeDiff, retOf, resOf, decide_eq_false hne]; first | done | rfl⟩
theorem cut_take (l : List UInt8) (n : Nat) : l.take (min l.length n) = l.take n := by
  by_cases h : l.length ≤ n
  · rw [Nat.min_eq_left h, List.take_length, List.take_of_length_le h]
  · rw [Nat.min_eq_right (by omega)]
end

def d258 : Def := (.code 2 [.cell 4 (.some 1), .tmp 5] (.seq (.rg false [⟨.some 2, .none, .box (.t 0)⟩, ⟨.some 4, .none, .box (.c (.agg #[.slice .none 0 0]))⟩, ⟨.some 5, .none, .mv (.c (.int .i64 0))⟩]) (.seq (.seq (.rg false [⟨.some 10, .none, .ld (.some 1) (.t 2)⟩, ⟨.some 11, .none, .call 257 .pure [.t 10]⟩, ⟨.some 12, .none, .un .not (.t 11)⟩]) (.cond (.t 12) (.seq (.rg false [⟨.some 13, .none, .build (.agg #[.slice .none 0 0]) []⟩, ⟨.none, .none, .st 1 (.t 4) (.t 13)⟩, ⟨.some 5, .none, .mv (.c (.int .i64 1))⟩]) .ret) .skip)) (.seq (.rg false [⟨.some 14, .none, .fa 0 (.t 2)⟩, ⟨.some 15, .none, .ld .none (.t 14)⟩, ⟨.some 16, .none, .icall 268 [.t 15]⟩, ⟨.some 6, .none, .mv (.t 16)⟩]) (.seq (.seq (.rg false [⟨.some 17, .none, .mv (.t 6)⟩, ⟨.some 18, .none, .lenL (.t 17)⟩, ⟨.some 19, .none, .mv (.c (.int .i64 0))⟩]) (.block 0 (.loop (.seq (.rg false [⟨.some 20, .none, .bin .lss (.t 19) (.t 18)⟩]) (.seq (.cond (.t 20) .skip (.exit 0)) (.seq (.block 1 (.seq (.rg false [⟨.some 21, .none, .mv (.t 19)⟩, ⟨.some 22, .none, .ia 3 (.t 17) (.t 19)⟩, ⟨.some 23, .none, .ld (.some 3) (.t 22)⟩, ⟨.some 8, .none, .box (.c (.agg #[.string ⟨#[]⟩, .string ⟨#[]⟩, .string ⟨#[]⟩]))⟩, ⟨.some 7, .none, .mv (.t 21)⟩, ⟨.none, .none, .st 3 (.t 8) (.t 23)⟩]) (.seq (.rg false [⟨.some 9, .none, .mv (.c (.int .i64 0))⟩]) (.seq (.seq (.rg false [⟨.some 24, .none, .mv (.t 7)⟩, ⟨.some 25, .none, .mv (.t 1)⟩, ⟨.some 26, .none, .lenL (.t 25)⟩, ⟨.some 27, .none, .bin .lss (.t 24) (.t 26)⟩]) (.cond (.t 27) (.rg true [⟨.some 28, .none, .mv (.t 1)⟩, ⟨.some 29, .none, .mv (.t 7)⟩, ⟨.some 30, .none, .ia 1 (.t 28) (.t 29)⟩, ⟨.some 31, .none, .ld .none (.t 30)⟩, ⟨.some 32, .none, .mnmx true [.t 31, .c (.int .i64 0)]⟩, ⟨.some 33, .none, .fa 2 (.t 8)⟩, ⟨.some 34, .none, .ld .none (.t 33)⟩, ⟨.some 35, .none, .lenS (.t 34)⟩, ⟨.some 36, .none, .mnmx false [.t 32, .t 35]⟩, ⟨.some 9, .none, .mv (.t 36)⟩]) .skip)) (.rg true [⟨.some 37, .none, .mv (.t 6)⟩, ⟨.some 38, .none, .mv (.t 7)⟩, ⟨.some 39, .none, .fa 0 (.t 8)⟩, ⟨.some 40, .none, .ld .none (.t 39)⟩, ⟨.some 41, .none, .fa 1 (.t 8)⟩, ⟨.some 42, .none, .ld .none (.t 41)⟩, ⟨.some 43, .none, .fa 2 (.t 8)⟩, ⟨.some 44, .none, .ld .none (.t 43)⟩, ⟨.some 45, .none, .mv (.t 9)⟩, ⟨.some 46, .none, .slcS (.t 44) .none (.some (.t 45))⟩, ⟨.some 47, .none, .bin .add (.t 42) (.t 46)⟩, ⟨.some 48, .none, .build (.agg #[.string ⟨#[]⟩, .string ⟨#[]⟩, .string ⟨#[]⟩]) [(0, (1, .t 40)), (1, (1, .t 47))]⟩, ⟨.some 49, .none, .ia 3 (.t 37) (.t 38)⟩, ⟨.none, .none, .st 3 (.t 49) (.t 48)⟩]))))) (.rg false [⟨.some 50, .none, .bin .add (.t 19) (.c (.int .i64 1))⟩, ⟨.some 19, .none, .mv (.t 50)⟩]))))))) (.seq (.rg false [⟨.some 51, .none, .mv (.t 6)⟩, ⟨.some 52, .none, .build (.agg #[.slice .none 0 0]) [(0, (1, .t 51))]⟩, ⟨.none, .none, .st 1 (.t 4) (.t 52)⟩, ⟨.some 5, .none, .mv (.c (.int .i64 0))⟩]) .ret))))))
def ljl : List (Nat × Def) := [(258, d258)]
def ints (l : List Int) : List PV := l.map fun i => .sc (.int .i64 i)
structure Rd9 (env : Nat → Option Def) : Prop where
  a1 : Has law env
  a2 : Has lda env
  b : Has ldb env
  c : Has ldc env
  e : Has ljc env
  f : Has lje env
  j : Has lja env
  d : Has ljd env
  o : Has ljb env
  h : Has ljh env
def crM (ks : List Int) (l : List Fl) (i : Nat) : List Fl := l.mapIdx fun j f => if j < i then crF ks j f else f
theorem crM_len (ks : List Int) (l : List Fl) (i : Nat) : (crM ks l i).length = l.length := by unfold crM; rw [List.length_mapIdx]
theorem crM_zero (ks : List Int) (l : List Fl) : crM ks l 0 = l := by
  unfold crM
  refine List.ext_getElem? fun j => ?_
  rw [List.getElem?_mapIdx]
  cases l[j]? <;> simp
theorem crM_all (ks : List Int) (l : List Fl) : crM ks l l.length = crashF l ks := by
  unfold crM crashF
  refine List.ext_getElem? fun j => ?_
  rw [List.getElem?_mapIdx, List.getElem?_mapIdx]
  by_cases h : j < l.length
  · rw [List.getElem?_eq_getElem h]; simp [h]
  · rw [List.getElem?_eq_none (by omega)]; rfl
theorem crM_at (ks : List Int) {l : List Fl} {i : Nat} (h : i < l.length) : (crM ks l i)[i]? = some l[i] := by
  unfold crM
  rw [List.getElem?_mapIdx, List.getElem?_eq_getElem h]; simp
theorem crM_succ (ks : List Int) {l : List Fl} {i : Nat} (h : i < l.length) : (fls (crM ks l i)).modify i (fun _ => fl (crF ks i l[i])) = fls (crM ks l (i + 1)) := by
  refine List.ext_getElem? fun j => ?_
  unfold fls crM
  rw [List.getElem?_modify, List.getElem?_map, List.getElem?_map, List.getElem?_mapIdx, List.getElem?_mapIdx]
  by_cases hj : j < l.length
  · rw [List.getElem?_eq_getElem hj]
    by_cases e : i = j
    · subst e; simp
    · simp [e]
      by_cases h2 : j < i
      · rw [if_pos h2, if_pos (by omega)]
      · rw [if_neg h2, if_neg (by omega)]
  · rw [List.getElem?_eq_none (by omega)]; simp
section
variable {env : Nat → Option Def} {fr : Fr} {σ σ' σ'' : St} {K : Fr → St → Prop} {Q : X → Fr → St → Prop} {p : PV} {bs : List UInt8}
theorem mx2 (a : Int) : mnmx true [.sc (.int .i64 a), .sc (.int .i64 0)] = some (.sc (.int .i64 (max a 0))) := by
  simp only [mnmx, List.foldlM_cons, List.foldlM_nil, mn1, if_true]
  by_cases h : 0 > a
  · rw [if_pos h, show max a 0 = 0 by omega]; rfl
  · rw [if_neg h, show max a 0 = a by omega]; rfl
theorem keep_bound {f : Fl} {ks : List Int} {i : Nat} (h : i < ks.length) : bound f.t.length (.sc (.int .i64 (min (max ks[i] 0) (f.t.length : Int)))) = some (keepN f ks i) := by
  unfold keepN
  rw [if_pos h, List.getD_eq_getElem?_getD, List.getElem?_eq_getElem h, Option.getD_some]
  simp only [bound]
  rw [if_pos (by omega)]
  congr 1
  omega
theorem keep_none {f : Fl} {ks : List Int} {i : Nat} (h : ¬ i < ks.length) : bound f.t.length (.sc (.int .i64 0)) = some (keepN f ks i) := by
  unfold keepN
  rw [if_neg h]
  simp [bound]
structure CrP (σ : St) (L : List Fl) (e : Int) (r : PV) (τ : St) : Prop where
  q : ∃ q, r = .tu [.agg [q], .sc (.int .i64 e)] ∧ RowW τ 3 q (fls L)
  k : Kp (fun _ => True) σ τ
theorem e_clone2 {s : Nat} (J : Has lja env) {l : List Fl} {p0 : PV} (hl : l.length ≤ 1000000) (clp : cl p0 = true) (hfz : ∀ (τ : St) (d : Nat), fz τ (d + 4) p0 = some (.sl (fls l))) : (l = [] ∧ icallE (EV env) s 268 [p0] σ = some (.em, σ)) ∨ (l ≠ [] ∧ icallE (EV env) s 268 [p0] σ = some (.ob s (σ.c s) 3 0 l.length, σ.new s ⟨3, fls l, true, true⟩)) := by
  have hk := J (268, .prim (cloneF 3 48)) (by simp [lja])
  have hall := fls_all l
  have hfa : [p0].mapM (fz σ dep) = some [.sl (fls l)] := by simp only [List.mapM_cons, List.mapM_nil]; rw [show fz σ dep p0 = some (.sl (fls l)) from hfz σ 8]; rfl
  have hfc : clL [p0] = true → True := fun _ => trivial
  have hln := fls_len l
  by_cases h0 : (fls l).isEmpty = true
  · have he : fls l = [] := by simpa using h0
    have he2 : l = [] := by unfold fls at he; simpa using he
    refine .inl ⟨he2, @icall_em env s 268 [p0] [.sl (fls l)] σ St.nil hfa ?_⟩
    rw [EV_prim hk]
    simp only [cloneF]
    rw [hall, Bool.true_and, if_pos (by rw [decide_eq_true_eq]; omega), if_pos h0]
  · have he2 : l ≠ [] := by rintro rfl; exact h0 rfl
    rw [← hln]
    refine .inr ⟨he2, @icall_ob env s 268 7 0 [p0] [.sl (fls l)] ⟨3, fls l, true, true⟩ σ (St.nil.new 7 ⟨3, fls l, true, true⟩) hfa ?_ (by simp [new_m, nil_c]) rfl rfl (by
      rw [fls_cl]; simp [clL, clp])⟩
    rw [EV_prim hk]
    simp only [cloneF]
    rw [hall, Bool.true_and, if_pos (by rw [decide_eq_true_eq]; omega), if_neg h0]
    rfl
theorem a258 (H : Rd9 env) (L : Has ljl env) {l : List Fl} {ks : List Int} {o g : Nat} {al wr : Bool} {p0 : PV} (cp : cellsOf p0 = [p0]) (okp : okc p0 = true) (clp : cl p0 = true) (hfz : ∀ (τ : St) (d : Nat), fz τ (d + 4) p0 = some (.sl (fls l))) (hl : l.length ≤ 900) (hsm : ∀ f ∈ l, f.Sm) (hk0 : ks.length ≤ 900) (hks : σ.m o g = some ⟨1, ints ks, al, wr⟩) (hF : Fresh σ) :
    ∃ r σ', EV env 258 [.agg [p0], .ob o g 1 0 ks.length] σ = some (r, σ') ∧ CrP σ (crashS l ks).1 (crashS l ks).2 r σ' := by
  have h257 := a257 H.a1 H.a2 H.b H.c H.e H.f (l := l) (by omega) hsm
  have hln := fls_len l
  refine EV_wp' (σ := σ) (R := fun r τ => CrP σ (crashS l ks).1 (crashS l ks).2 r τ) (L (258, d258) (by simp [ljl])) rfl ?_
  have k0 := ((Kp.refl (P := fun _ => True) hF).new 2000002 ⟨1, [.agg [p0]], true, true⟩).new 2000004 ⟨1, [.agg [.em]], true, true⟩
  cases hR : rightS l with
  | false =>
    have hr : crashS l ks = ([], 1) := by unfold crashS; rw [hR]; rfl
    rw [hr]
    rw [hR] at h257
    (repeat' first
    | refine w_seq ?_ | refine w_rg ?_ | refine wo_nil ?_ | refine g_skU ?_ | refine g_skT ?_ | refine g_skF ?_
    | ((first | apply s_plain | apply s_void | apply s_guard | apply g_goT | apply g_goF); · simp only [go_sem, Nat.reduceEqDiff, Nat.reduceAdd, Nat.reduceLeDiff, h257, cp, okp, clp, hfz, List.set_cons_succ]; (first | done | rfl))
    | ((first | apply g_T | apply g_F | apply g_gT | apply g_gF); · intro q1_; (first | intro q2_ | have q2_ := q1_); simp only [go_sem, Nat.reduceEqDiff, Nat.reduceAdd, Nat.reduceLeDiff, h257, cp, okp, clp, hfz, List.set_cons_succ, q1_, q2_]; (first | done | rfl))
    | (apply w_condX; · simp only [go_sem, Nat.reduceEqDiff, Nat.reduceAdd, Nat.reduceLeDiff, h257, cp, okp, clp, hfz, List.set_cons_succ]; (first | done | rfl)); (first | refine wcd_T ?_ | refine wcd_F ?_)
    | refine w_skip ?_ | refine w_exit ?_ | refine w_ret ?_
    | fail
    )
    refine ⟨.inr rfl, _, by simp only [go_sem, Nat.reduceEqDiff, Nat.reduceAdd, Nat.reduceLeDiff, retOf, resOf, List.set_cons_succ], ⟨.em, rfl, .inl ⟨rfl, rfl⟩⟩, ?_⟩
    exact k0.put (x := ⟨1, [.agg [.em]], true, true⟩) (by simp only [go_sem, Nat.reduceEqDiff, Nat.reduceAdd, Nat.reduceLeDiff]) (.inr (by simp [new_c])) _
  | true =>
    have hr : crashS l ks = (crashF l ks, 0) := by unfold crashS; rw [hR]; rfl
    rw [hr]
    rw [hR] at h257
    (repeat' first
    | refine w_seq ?_ | refine w_rg ?_ | refine wo_nil ?_ | refine g_skU ?_ | refine g_skT ?_ | refine g_skF ?_
    | ((first | apply s_plain | apply s_void | apply s_guard | apply g_goT | apply g_goF); · simp only [go_sem, Nat.reduceEqDiff, Nat.reduceAdd, Nat.reduceLeDiff, h257, cp, okp, clp, hfz, List.set_cons_succ]; (first | done | rfl))
    | ((first | apply g_T | apply g_F | apply g_gT | apply g_gF); · intro q1_; (first | intro q2_ | have q2_ := q1_); simp only [go_sem, Nat.reduceEqDiff, Nat.reduceAdd, Nat.reduceLeDiff, h257, cp, okp, clp, hfz, List.set_cons_succ, q1_, q2_]; (first | done | rfl))
    | (apply w_condX; · simp only [go_sem, Nat.reduceEqDiff, Nat.reduceAdd, Nat.reduceLeDiff, h257, cp, okp, clp, hfz, List.set_cons_succ]; (first | done | rfl)); (first | refine wcd_T ?_ | refine wcd_F ?_)
    | refine w_skip ?_ | refine w_exit ?_ | refine w_ret ?_
    | fail
    )
    rcases e_clone2 (s := 16) (σ := (σ.new 2000002 ⟨1, [.agg [p0]], true, true⟩).new 2000004 ⟨1, [.agg [.em]], true, true⟩) H.j (l := l) (p0 := p0) (by omega) clp hfz with ⟨h0, hc⟩ | ⟨h0, hc⟩
    · subst h0
      refine s_plain (v := .em) (σ' := (σ.new 2000002 ⟨1, [.agg [p0]], true, true⟩).new 2000004 ⟨1, [.agg [.em]], true, true⟩) (by simp only [go_sem, Nat.reduceEqDiff, Nat.reduceAdd, Nat.reduceLeDiff]; exact hc) ?_
      (repeat' first
    | refine w_seq ?_ | refine w_rg ?_ | refine wo_nil ?_ | refine g_skU ?_ | refine g_skT ?_ | refine g_skF ?_
    | ((first | apply s_plain | apply s_void | apply s_guard | apply g_goT | apply g_goF); · simp only [go_sem, Nat.reduceEqDiff, Nat.reduceAdd, Nat.reduceLeDiff]; (first | done | rfl))
    | ((first | apply g_T | apply g_F | apply g_gT | apply g_gF); · intro q1_; (first | intro q2_ | have q2_ := q1_); simp only [go_sem, Nat.reduceEqDiff, Nat.reduceAdd, Nat.reduceLeDiff, q1_, q2_]; (first | done | rfl))
    | (apply w_condX; · simp only [go_sem, Nat.reduceEqDiff, Nat.reduceAdd, Nat.reduceLeDiff]; (first | done | rfl)); (first | refine wcd_T ?_ | refine wcd_F ?_)
    | refine w_skip ?_ | refine w_exit ?_ | refine w_ret ?_
    | fail
    )
      refine w_block (w_rangeF 0 (by omega) (fun i fr τ => τ = (σ.new 2000002 ⟨1, [.agg [p0]], true, true⟩).new 2000004 ⟨1, [.agg [.em]], true, true⟩) ⟨by decide, rfl, rfl⟩ (fun _ _ _ _ h => ⟨h, h, h⟩) rfl (by simp only [go_sem, Nat.reduceEqDiff, Nat.reduceAdd, Nat.reduceLeDiff]; first | done | rfl) (by simp only [go_sem, Nat.reduceEqDiff, Nat.reduceAdd, Nat.reduceLeDiff]; first | done | rfl) ?_ ?_)
      · intro i fr1 σ1 hi
        omega
      · rintro fr1 σ1 rfl hfr
        have e0_4 := hfr 4 rfl; have e0_5 := hfr 5 rfl; have e0_6 := hfr 6 rfl; try (simp only [go_sem, Nat.reduceEqDiff, Nat.reduceAdd, Nat.reduceLeDiff] at e0_4); try (simp only [go_sem, Nat.reduceEqDiff, Nat.reduceAdd, Nat.reduceLeDiff] at e0_5); try (simp only [go_sem, Nat.reduceEqDiff, Nat.reduceAdd, Nat.reduceLeDiff] at e0_6)
        try simp only [if_true]
        (repeat' first
    | refine w_seq ?_ | refine w_rg ?_ | refine wo_nil ?_ | refine g_skU ?_ | refine g_skT ?_ | refine g_skF ?_
    | ((first | apply s_plain | apply s_void | apply s_guard | apply g_goT | apply g_goF); · simp only [go_sem, Nat.reduceEqDiff, Nat.reduceAdd, Nat.reduceLeDiff, e0_4, e0_5, e0_6, List.set_cons_succ]; (first | done | rfl))
    | ((first | apply g_T | apply g_F | apply g_gT | apply g_gF); · intro q1_; (first | intro q2_ | have q2_ := q1_); simp only [go_sem, Nat.reduceEqDiff, Nat.reduceAdd, Nat.reduceLeDiff, e0_4, e0_5, e0_6, List.set_cons_succ, q1_, q2_]; (first | done | rfl))
    | (apply w_condX; · simp only [go_sem, Nat.reduceEqDiff, Nat.reduceAdd, Nat.reduceLeDiff, e0_4, e0_5, e0_6, List.set_cons_succ]; (first | done | rfl)); (first | refine wcd_T ?_ | refine wcd_F ?_)
    | refine w_skip ?_ | refine w_exit ?_ | refine w_ret ?_
    | fail
    )
        refine ⟨.inr rfl, .tu [.agg [.em], .sc (.int .i64 0)], by simp only [go_sem, Nat.reduceEqDiff, Nat.reduceAdd, Nat.reduceLeDiff, e0_4, e0_5, e0_6, retOf, resOf, List.set_cons_succ], ⟨.em, rfl, .inl ⟨rfl, rfl⟩⟩, ?_⟩
        exact k0.put (x := ⟨1, [.agg [.em]], true, true⟩) (by simp only [go_sem, Nat.reduceEqDiff, Nat.reduceAdd, Nat.reduceLeDiff]) (.inr (by simp [new_c])) _
    · have hc16 : ((σ.new 2000002 ⟨1, [.agg [p0]], true, true⟩).new 2000004 ⟨1, [.agg [.em]], true, true⟩).c 16 = σ.c 16 := by simp [new_c]
      rw [hc16] at hc
      refine s_plain (v := .ob 16 (σ.c 16) 3 0 l.length) (σ' := ((σ.new 2000002 ⟨1, [.agg [p0]], true, true⟩).new 2000004 ⟨1, [.agg [.em]], true, true⟩).new 16 ⟨3, fls l, true, true⟩) (by simp only [go_sem, Nat.reduceEqDiff, Nat.reduceAdd, Nat.reduceLeDiff]; exact hc) ?_
      (repeat' first
    | refine w_seq ?_ | refine w_rg ?_ | refine wo_nil ?_ | refine g_skU ?_ | refine g_skT ?_ | refine g_skF ?_
    | ((first | apply s_plain | apply s_void | apply s_guard | apply g_goT | apply g_goF); · simp only [go_sem, Nat.reduceEqDiff, Nat.reduceAdd, Nat.reduceLeDiff]; (first | done | rfl))
    | ((first | apply g_T | apply g_F | apply g_gT | apply g_gF); · intro q1_; (first | intro q2_ | have q2_ := q1_); simp only [go_sem, Nat.reduceEqDiff, Nat.reduceAdd, Nat.reduceLeDiff, q1_, q2_]; (first | done | rfl))
    | (apply w_condX; · simp only [go_sem, Nat.reduceEqDiff, Nat.reduceAdd, Nat.reduceLeDiff]; (first | done | rfl)); (first | refine wcd_T ?_ | refine wcd_F ?_)
    | refine w_skip ?_ | refine w_exit ?_ | refine w_ret ?_
    | fail
    )
      refine w_block (w_rangeF l.length (by omega) (fun i fr τ => Kp (fun _ => True) σ τ ∧ τ.m 16 (σ.c 16) = some ⟨3, fls (crM ks l i), true, true⟩ ∧ τ.m 2000004 (σ.c 2000004) = some ⟨1, [.agg [.em]], true, true⟩) ⟨by decide, rfl, rfl⟩ (fun _ _ _ _ h => ⟨h, h, h⟩) ⟨k0.new 16 _, by rw [crM_zero]; simp only [go_sem, Nat.reduceEqDiff, Nat.reduceAdd, Nat.reduceLeDiff], by simp only [go_sem, Nat.reduceEqDiff, Nat.reduceAdd, Nat.reduceLeDiff]⟩ (by simp only [go_sem, Nat.reduceEqDiff, Nat.reduceAdd, Nat.reduceLeDiff]; first | done | rfl) (by simp only [go_sem, Nat.reduceEqDiff, Nat.reduceAdd, Nat.reduceLeDiff]; first | done | rfl) ?_ ?_)
      · rintro i fr1 σ1 hi ⟨k1, m16, m4⟩ hti hfr
        have f0_1 := hfr 1 rfl; have f0_6 := hfr 6 rfl; have f0_17 := hfr 17 rfl; have f0_18 := hfr 18 rfl; try (simp only [go_sem, Nat.reduceEqDiff, Nat.reduceAdd, Nat.reduceLeDiff] at f0_1); try (simp only [go_sem, Nat.reduceEqDiff, Nat.reduceAdd, Nat.reduceLeDiff] at f0_6); try (simp only [go_sem, Nat.reduceEqDiff, Nat.reduceAdd, Nat.reduceLeDiff] at f0_17); try (simp only [go_sem, Nat.reduceEqDiff, Nat.reduceAdd, Nat.reduceLeDiff] at f0_18)
        have hx := crM_at ks hi
        have hy := fls_at hx
        have hlen : (fls (crM ks l i)).length = l.length := by rw [fls_len, crM_len]
        have hsuc := crM_succ ks hi
        have e1 : (0 : Int) ≤ (i : Int) ∧ (i : Int) < (l.length : Int) := by omega
        have hfs := hsm l[i] (List.getElem_mem hi)
        have hks1 : σ1.m o g = some ⟨1, ints ks, al, wr⟩ := by rw [k1.m o g trivial (hF o g (by rw [hks]; rfl))]; exact hks
        unfold fl crF at hsuc
        unfold fl at hy
        generalize l[i] = f at hx hy hsuc hfs
        refine w_block ?_
        (repeat' first
    | refine w_seq ?_ | refine w_rg ?_ | refine wo_nil ?_ | refine g_skU ?_ | refine g_skT ?_ | refine g_skF ?_
    | ((first | apply s_plain | apply s_void | apply s_guard | apply g_goT | apply g_goF); · simp only [go_sem, Nat.reduceEqDiff, Nat.reduceAdd, Nat.reduceLeDiff, f0_1, f0_6, f0_17, f0_18, hti, e1, Int.toNat_natCast, hy, m16, hlen, List.set_cons_succ]; (first | done | rfl))
    | ((first | apply g_T | apply g_F | apply g_gT | apply g_gF); · intro q1_; (first | intro q2_ | have q2_ := q1_); simp only [go_sem, Nat.reduceEqDiff, Nat.reduceAdd, Nat.reduceLeDiff, f0_1, f0_6, f0_17, f0_18, hti, e1, Int.toNat_natCast, hy, m16, hlen, List.set_cons_succ, q1_, q2_]; (first | done | rfl))
    | (apply w_condX; · simp only [go_sem, Nat.reduceEqDiff, Nat.reduceAdd, Nat.reduceLeDiff, f0_1, f0_6, f0_17, f0_18, hti, e1, Int.toNat_natCast, hy, m16, hlen, List.set_cons_succ]; (first | done | rfl)); (first | refine wcd_T ?_ | refine wcd_F ?_)
    | refine w_skip ?_ | refine w_exit ?_ | refine w_ret ?_
    | fail
    )
        have k2 := (k1.new 2000008 ⟨3, [.agg [.sc (.string ⟨#[]⟩), .sc (.string ⟨#[]⟩), .sc (.string ⟨#[]⟩)]], true, true⟩).put (x := ⟨3, [.agg [.sc (.string ⟨#[]⟩), .sc (.string ⟨#[]⟩), .sc (.string ⟨#[]⟩)]], true, true⟩) (o := 2000008) (g := σ1.c 2000008) (by simp only [go_sem, Nat.reduceEqDiff, Nat.reduceAdd, Nat.reduceLeDiff]) (.inr (k1.c _)) (some ⟨3, [.agg [txt f.n, txt f.s, txt f.t]], true, true⟩)
        have n16 : ((σ1.new 2000008 ⟨3, [.agg [.sc (.string ⟨#[]⟩), .sc (.string ⟨#[]⟩), .sc (.string ⟨#[]⟩)]], true, true⟩).put 2000008 (σ1.c 2000008) (some ⟨3, [.agg [txt f.n, txt f.s, txt f.t]], true, true⟩)).m 16 (σ.c 16) = some ⟨3, fls (crM ks l i), true, true⟩ := by simp only [go_sem, Nat.reduceEqDiff, Nat.reduceAdd, Nat.reduceLeDiff, m16]
        have n4 : ((σ1.new 2000008 ⟨3, [.agg [.sc (.string ⟨#[]⟩), .sc (.string ⟨#[]⟩), .sc (.string ⟨#[]⟩)]], true, true⟩).put 2000008 (σ1.c 2000008) (some ⟨3, [.agg [txt f.n, txt f.s, txt f.t]], true, true⟩)).m 2000004 (σ.c 2000004) = some ⟨1, [.agg [.em]], true, true⟩ := by simp only [go_sem, Nat.reduceEqDiff, Nat.reduceAdd, Nat.reduceLeDiff, m4]
        have n8 : ((σ1.new 2000008 ⟨3, [.agg [.sc (.string ⟨#[]⟩), .sc (.string ⟨#[]⟩), .sc (.string ⟨#[]⟩)]], true, true⟩).put 2000008 (σ1.c 2000008) (some ⟨3, [.agg [txt f.n, txt f.s, txt f.t]], true, true⟩)).m 2000008 (σ1.c 2000008) = some ⟨3, [.agg [txt f.n, txt f.s, txt f.t]], true, true⟩ := by simp only [go_sem, Nat.reduceEqDiff, Nat.reduceAdd, Nat.reduceLeDiff]
        have nks := k2.m o g trivial (hF o g (by rw [hks]; rfl))
        rw [hks] at nks
        generalize ((σ1.new 2000008 ⟨3, [.agg [.sc (.string ⟨#[]⟩), .sc (.string ⟨#[]⟩), .sc (.string ⟨#[]⟩)]], true, true⟩).put 2000008 (σ1.c 2000008) (some ⟨3, [.agg [txt f.n, txt f.s, txt f.t]], true, true⟩)) = σ2 at k2 n16 n4 n8 nks ⊢
        have c1 : f.s.length + (f.t.take (keepN f ks i)).length ≤ 9223372036854775807 := by
          have h1 := hfs.s
          have h2 := hfs.t
          rw [List.length_take]; omega
        have hlt' : i < (fls (crM ks l i)).length := by omega
        by_cases hki : i < ks.length
        · have hb := keep_bound (f := f) hki
          have e2 : (0 : Int) ≤ (i : Int) ∧ (i : Int) < (ks.length : Int) := by omega
          have hcn : decide ((i : Int) < (ks.length : Int)) = true := by rw [decide_eq_true_eq]; omega
          have hel : (ints ks)[i]? = some (.sc (.int .i64 ks[i])) := by unfold ints; rw [List.getElem?_map, List.getElem?_eq_getElem hki]; rfl
          have hil : (ints ks).length = ks.length := by unfold ints; rw [List.length_map]
          generalize htk : f.t.take (keepN f ks i) = t' at hsuc c1
          (repeat' first
    | refine w_seq ?_ | refine w_rg ?_ | refine wo_nil ?_ | refine g_skU ?_ | refine g_skT ?_ | refine g_skF ?_
    | ((first | apply s_plain | apply s_void | apply s_guard | apply g_goT | apply g_goF); · simp only [go_sem, Nat.reduceEqDiff, Nat.reduceAdd, Nat.reduceLeDiff, f0_1, f0_6, f0_17, f0_18, e2, hcn, hel, hil, Int.toNat_natCast, nks, n8, mx2, mn2, hb, htk, n16, hlen, hlt', hi, e1, c1, List.drop_zero, List.size_toArray, List.set_cons_succ]; (first | done | rfl))
    | ((first | apply g_T | apply g_F | apply g_gT | apply g_gF); · intro q1_; (first | intro q2_ | have q2_ := q1_); simp only [go_sem, Nat.reduceEqDiff, Nat.reduceAdd, Nat.reduceLeDiff, f0_1, f0_6, f0_17, f0_18, e2, hcn, hel, hil, Int.toNat_natCast, nks, n8, mx2, mn2, hb, htk, n16, hlen, hlt', hi, e1, c1, List.drop_zero, List.size_toArray, List.set_cons_succ, q1_, q2_]; (first | done | rfl))
    | (apply w_condX; · simp only [go_sem, Nat.reduceEqDiff, Nat.reduceAdd, Nat.reduceLeDiff, f0_1, f0_6, f0_17, f0_18, e2, hcn, hel, hil, Int.toNat_natCast, nks, n8, mx2, mn2, hb, htk, n16, hlen, hlt', hi, e1, c1, List.drop_zero, List.size_toArray, List.set_cons_succ]; (first | done | rfl)); (first | refine wcd_T ?_ | refine wcd_F ?_)
    | refine w_skip ?_ | refine w_exit ?_ | refine w_ret ?_
    | fail
    )
          try simp only [if_true]
          refine ⟨k2.put n16 (.inr (Nat.le_refl _)) _, ?_, ?_⟩
          · rw [← hsuc]; simp only [go_sem, Nat.reduceEqDiff, Nat.reduceAdd, Nat.reduceLeDiff]
          · simp only [go_sem, Nat.reduceEqDiff, Nat.reduceAdd, Nat.reduceLeDiff, n4]
        · have hb := keep_none (f := f) hki
          have hcn : decide ((i : Int) < (ks.length : Int)) = false := by rw [decide_eq_false_iff_not]; omega
          generalize htk : f.t.take (keepN f ks i) = t' at hsuc c1
          (repeat' first
    | refine w_seq ?_ | refine w_rg ?_ | refine wo_nil ?_ | refine g_skU ?_ | refine g_skT ?_ | refine g_skF ?_
    | ((first | apply s_plain | apply s_void | apply s_guard | apply g_goT | apply g_goF); · simp only [go_sem, Nat.reduceEqDiff, Nat.reduceAdd, Nat.reduceLeDiff, f0_1, f0_6, f0_17, f0_18, hcn, Int.toNat_natCast, nks, n8, mx2, mn2, hb, htk, n16, hlen, hlt', hi, e1, c1, List.drop_zero, List.size_toArray, List.set_cons_succ]; (first | done | rfl))
    | ((first | apply g_T | apply g_F | apply g_gT | apply g_gF); · intro q1_; (first | intro q2_ | have q2_ := q1_); simp only [go_sem, Nat.reduceEqDiff, Nat.reduceAdd, Nat.reduceLeDiff, f0_1, f0_6, f0_17, f0_18, hcn, Int.toNat_natCast, nks, n8, mx2, mn2, hb, htk, n16, hlen, hlt', hi, e1, c1, List.drop_zero, List.size_toArray, List.set_cons_succ, q1_, q2_]; (first | done | rfl))
    | (apply w_condX; · simp only [go_sem, Nat.reduceEqDiff, Nat.reduceAdd, Nat.reduceLeDiff, f0_1, f0_6, f0_17, f0_18, hcn, Int.toNat_natCast, nks, n8, mx2, mn2, hb, htk, n16, hlen, hlt', hi, e1, c1, List.drop_zero, List.size_toArray, List.set_cons_succ]; (first | done | rfl)); (first | refine wcd_T ?_ | refine wcd_F ?_)
    | refine w_skip ?_ | refine w_exit ?_ | refine w_ret ?_
    | fail
    )
          try simp only [if_true]
          refine ⟨k2.put n16 (.inr (Nat.le_refl _)) _, ?_, ?_⟩
          · rw [← hsuc]; simp only [go_sem, Nat.reduceEqDiff, Nat.reduceAdd, Nat.reduceLeDiff]
          · simp only [go_sem, Nat.reduceEqDiff, Nat.reduceAdd, Nat.reduceLeDiff, n4]
      · rintro fr1 σ1 ⟨k1, m16, m4⟩ hfr
        have e0_4 := hfr 4 rfl; have e0_5 := hfr 5 rfl; have e0_6 := hfr 6 rfl; try (simp only [go_sem, Nat.reduceEqDiff, Nat.reduceAdd, Nat.reduceLeDiff] at e0_4); try (simp only [go_sem, Nat.reduceEqDiff, Nat.reduceAdd, Nat.reduceLeDiff] at e0_5); try (simp only [go_sem, Nat.reduceEqDiff, Nat.reduceAdd, Nat.reduceLeDiff] at e0_6)
        try simp only [if_true]
        (repeat' first
    | refine w_seq ?_ | refine w_rg ?_ | refine wo_nil ?_ | refine g_skU ?_ | refine g_skT ?_ | refine g_skF ?_
    | ((first | apply s_plain | apply s_void | apply s_guard | apply g_goT | apply g_goF); · simp only [go_sem, Nat.reduceEqDiff, Nat.reduceAdd, Nat.reduceLeDiff, e0_4, e0_5, e0_6, m4, List.set_cons_succ]; (first | done | rfl))
    | ((first | apply g_T | apply g_F | apply g_gT | apply g_gF); · intro q1_; (first | intro q2_ | have q2_ := q1_); simp only [go_sem, Nat.reduceEqDiff, Nat.reduceAdd, Nat.reduceLeDiff, e0_4, e0_5, e0_6, m4, List.set_cons_succ, q1_, q2_]; (first | done | rfl))
    | (apply w_condX; · simp only [go_sem, Nat.reduceEqDiff, Nat.reduceAdd, Nat.reduceLeDiff, e0_4, e0_5, e0_6, m4, List.set_cons_succ]; (first | done | rfl)); (first | refine wcd_T ?_ | refine wcd_F ?_)
    | refine w_skip ?_ | refine w_exit ?_ | refine w_ret ?_
    | fail
    )
        rw [crM_all] at m16
        refine ⟨.inr rfl, .tu [.agg [.ob 16 (σ.c 16) 3 0 l.length], .sc (.int .i64 0)], by simp only [go_sem, Nat.reduceEqDiff, Nat.reduceAdd, Nat.reduceLeDiff, e0_4, e0_5, e0_6, retOf, resOf, List.set_cons_succ], ⟨_, rfl, .inr ⟨16, σ.c 16, ?_, ?_, by decide⟩⟩, ?_⟩
        · rw [fls_len]; unfold crashF; rw [List.length_mapIdx]
        · simp only [go_sem, Nat.reduceEqDiff, Nat.reduceAdd, Nat.reduceLeDiff, m16]
        · exact k1.put (x := ⟨1, [.agg [.em]], true, true⟩) m4 (.inr (Nat.le_refl _)) _
end

end
end Go.Proofs.YtemoboghbdcjkaaDoorPv
