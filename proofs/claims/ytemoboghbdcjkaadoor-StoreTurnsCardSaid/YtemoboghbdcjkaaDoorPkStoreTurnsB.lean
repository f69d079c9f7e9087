/-
Own texts of the proof, merged: part 2.
-/
import Derived.Test.YtemoboghbdcjkaaDoorPkStoreTurnsA
import Derived.Test.YtemoboghbdcjkaaDoorPvL
import Derived.HandedShaped
namespace Go.Proofs.YtemoboghbdcjkaaDoorPv
open Go
set_option linter.unusedSimpArgs false
set_option linter.unusedVariables false
set_option maxHeartbeats 4000000
set_option maxRecDepth 8000
attribute [local go_sem ↓] e_mv e_pick e_bin e_eqs e_beq e_un e_cvi e_str e_s2b e_b2s e_box e_build e_bsl e_ld e_st e_nck e_mkf e_slcS e_slcL e_fa e_fld e_ia e_iaa e_ix e_ixa e_ext e_lenS e_lenL e_mnmx e_app e_appb e_bbx e_msl e_clr e_call e_callv e_icall e_slcA e_mkm e_mput e_mget e_mlen e_mdel pa_t pa_c pa_f slcSP_str hiOf_some hiOf_none loOf_some loOf_none set_eq set_ne
attribute [local go_sem] pv pv1 simple frOf_0 frOf_1 frOf_2 frOf_3 frOf_4 frOf_5 ne_eq not_false_eq_true if_true Bool.false_eq_true if_false pbin punary Option.map_some Option.bind_some pick_and pick_or opt_true Bool.true_and Bool.and_self Bool.and_true Bool.true_or Bool.false_or Bool.not_true Bool.not_false callE pcall_eq List.map_cons List.map_nil List.append_nil List.nil_append List.cons_append mapM_cons' mapM_nil' dep_eq fz_sc fz_sl fz_em fz_fn fz_fp fz_agg fz_tu fz_bx fz_ob Nat.lt_irrefl Nat.zero_lt_one Nat.lt_add_one flat clL cl Bool.or_true okc_sc okc_em okc_sl okc_ob okc_bx okc_fp okc_fn okc_agg okc_ifc cells_agg cells_sc cells_sl cells_em cells_ob cells_fn cells_bx cells_fp List.length_cons List.length_nil Nat.zero_add and_self true_and and_true new_m new_c put_m put_c nil_m nil_c nil_mm new_mm put_mm newM_m newM_c newM_mm putM_m putM_c putM_mm mkeyV_1 mkeyV_2 mapAt_eq deref List.getElem?_cons_zero List.getElem?_cons_succ List.drop_zero List.drop_succ_cons List.take_succ_cons List.take_zero Nat.le_refl false_and and_false decide_true decide_false lenP_em lenP_nil lenP_sl lenP_ob Int.ofNat_zero splice fillP fillE List.modify_zero_cons List.replicate_succ List.replicate_zero List.set_cons_zero List.drop_zero ba_data ba_size ba_toList ba_extract ba_append List.toList_toArray
def d267 : Def := (.code 4 [.tmp 8, .tmp 9] (.seq (.rg false [⟨.some 7, .none, .box (.t 3)⟩, ⟨.some 8, .none, .mv (.c (.slice .none 0 0))⟩, ⟨.some 9, .none, .mv (.c (.bool false))⟩]) (.seq (.rg false [⟨.some 11, .none, .fa 1 (.t 7)⟩, ⟨.some 12, .none, .ld .none (.t 11)⟩, ⟨.some 13, .none, .build (.agg #[.string ⟨#[]⟩, .string ⟨#[]⟩, .string ⟨#[]⟩]) [(0, (1, .t 12))]⟩, ⟨.some 10, .none, .box (.c (.agg #[.string ⟨#[]⟩, .string ⟨#[]⟩, .string ⟨#[]⟩]))⟩, ⟨.none, .none, .st 3 (.t 10) (.t 13)⟩]) (.seq (.seq (.rg false [⟨.some 14, .none, .mv (.t 2)⟩]) (.cond (.t 14) (.rg false [⟨.some 15, .none, .mv (.t 0)⟩, ⟨.some 16, .none, .mv (.t 1)⟩, ⟨.some 17, .none, .ia 3 (.t 15) (.t 16)⟩, ⟨.some 18, .none, .ld (.some 3) (.t 17)⟩, ⟨.none, .none, .st 3 (.t 10) (.t 18)⟩]) .skip)) (.seq (.seq (.rg false [⟨.some 19, .none, .fa 0 (.t 7)⟩, ⟨.some 20, .none, .ld .none (.t 19)⟩]) (.block 0 (.seq (.block 4 (.seq (.block 3 (.seq (.block 2 (.seq (.block 1 (.seq (.seq (.seq (.rg false [⟨.some 22, .none, .bin .eql (.t 20) (.c (.int .i64 1))⟩, ⟨.some 21, .none, .mv (.t 22)⟩]) (.cond (.t 21) (.exit 1) .skip)) (.seq (.seq (.rg false [⟨.some 24, .none, .bin .eql (.t 20) (.c (.int .i64 2))⟩, ⟨.some 23, .none, .mv (.t 24)⟩]) (.cond (.t 23) (.exit 2) .skip)) (.seq (.seq (.rg false [⟨.some 26, .none, .bin .eql (.t 20) (.c (.int .i64 3))⟩, ⟨.some 25, .none, .mv (.t 26)⟩]) (.cond (.t 25) (.exit 3) .skip)) (.seq (.rg false [⟨.some 28, .none, .bin .eql (.t 20) (.c (.int .i64 4))⟩, ⟨.some 27, .none, .mv (.t 28)⟩]) (.cond (.t 27) (.exit 4) .skip))))) (.exit 0))) (.seq (.seq (.rg false [⟨.some 29, .none, .fa 2 (.t 10)⟩, ⟨.some 30, .none, .ld .none (.t 29)⟩, ⟨.some 31, .none, .fa 2 (.t 7)⟩, ⟨.some 32, .none, .ld .none (.t 31)⟩, ⟨.some 33, .none, .bin .add (.t 30) (.t 32)⟩, ⟨.some 34, .none, .fa 2 (.t 10)⟩, ⟨.none, .none, .st 1 (.t 34) (.t 33)⟩]) (.rg false [⟨.some 35, .none, .mv (.t 0)⟩, ⟨.some 36, .none, .ld (.some 3) (.t 10)⟩, ⟨.some 37, .none, .call 277 .opn [.t 35, .t 36]⟩, ⟨.some 0, .none, .mv (.t 37)⟩])) (.exit 0)))) (.seq (.seq (.rg false [⟨.some 38, .none, .fa 1 (.t 10)⟩, ⟨.some 39, .none, .ld .none (.t 38)⟩, ⟨.some 40, .none, .fa 2 (.t 10)⟩, ⟨.some 41, .none, .ld .none (.t 40)⟩, ⟨.some 42, .none, .bin .add (.t 39) (.t 41)⟩, ⟨.some 43, .none, .fa 1 (.t 10)⟩, ⟨.none, .none, .st 1 (.t 43) (.t 42)⟩, ⟨.some 44, .none, .fa 2 (.t 10)⟩, ⟨.none, .none, .st 1 (.t 44) (.c (.string ⟨#[]⟩))⟩]) (.rg false [⟨.some 45, .none, .mv (.t 0)⟩, ⟨.some 46, .none, .ld (.some 3) (.t 10)⟩, ⟨.some 47, .none, .call 277 .opn [.t 45, .t 46]⟩, ⟨.some 0, .none, .mv (.t 47)⟩])) (.exit 0)))) (.rg false [⟨.some 48, .none, .fa 2 (.t 7)⟩, ⟨.some 49, .none, .ld .none (.t 48)⟩, ⟨.some 50, .none, .fa 0 (.t 10)⟩, ⟨.none, .none, .st 1 (.t 50) (.t 49)⟩]))) (.seq (.seq (.rg false [⟨.some 51, .none, .mv (.t 0)⟩, ⟨.some 52, .none, .mv (.t 1)⟩, ⟨.some 53, .none, .mv (.t 1)⟩, ⟨.some 54, .none, .bin .add (.t 53) (.c (.int .i64 1))⟩, ⟨.some 55, .none, .call 278 .opn [.t 51, .t 52, .t 54]⟩, ⟨.some 0, .none, .mv (.t 55)⟩]) (.seq (.rg false [⟨.some 56, .none, .fa 0 (.t 10)⟩, ⟨.some 57, .none, .ld .none (.t 56)⟩, ⟨.some 58, .none, .fa 1 (.t 7)⟩, ⟨.some 59, .none, .ld .none (.t 58)⟩, ⟨.some 60, .none, .bin .neq (.t 57) (.t 59)⟩, ⟨.some 61, .none, .mv (.t 60)⟩, ⟨.some 62, .some (61, false), .fa 0 (.t 7)⟩, ⟨.some 63, .some (61, false), .ld .none (.t 62)⟩, ⟨.some 64, .some (61, false), .bin .eql (.t 63) (.c (.int .i64 3))⟩, ⟨.some 65, .none, .pick (.t 61) (.c (.bool true)) (.t 64)⟩]) (.cond (.t 65) (.rg false [⟨.some 66, .none, .mv (.t 0)⟩, ⟨.some 67, .none, .ld (.some 3) (.t 10)⟩, ⟨.some 68, .none, .call 277 .opn [.t 66, .t 67]⟩, ⟨.some 0, .none, .mv (.t 68)⟩]) .skip))) (.exit 0))))) (.seq (.rg true [⟨.some 69, .none, .mv (.t 0)⟩, ⟨.some 70, .none, .mv (.t 0)⟩, ⟨.some 71, .none, .lenL (.t 70)⟩, ⟨.some 72, .none, .bin .leq (.t 71) (.c (.int .i64 16))⟩, ⟨.some 73, .none, .mv (.t 72)⟩, ⟨.some 74, .some (73, true), .fa 1 (.t 10)⟩, ⟨.some 75, .some (73, true), .ld .none (.t 74)⟩, ⟨.some 76, .some (73, true), .lenS (.t 75)⟩, ⟨.some 77, .some (73, true), .fa 2 (.t 10)⟩, ⟨.some 78, .some (73, true), .ld .none (.t 77)⟩, ⟨.some 79, .some (73, true), .lenS (.t 78)⟩, ⟨.some 80, .some (73, true), .bin .add (.t 76) (.t 79)⟩, ⟨.some 81, .some (73, true), .bin .leq (.t 80) (.c (.int .i64 16384))⟩, ⟨.some 82, .none, .pick (.t 73) (.t 81) (.c (.bool false))⟩, ⟨.some 8, .none, .mv (.t 69)⟩, ⟨.some 9, .none, .mv (.t 82)⟩]) .ret))))))
def ljg : List (Nat × Def) := [(267, d267)]
structure Op9 where
  k : Int
  n : List UInt8
  d : List UInt8
def opV (o : Op9) : PV := .agg [.sc (.int .i64 o.k), txt o.n, txt o.d]
structure Op9.Sm (o : Op9) : Prop where
  n : o.n.length ≤ 4000000000
  d : o.d.length ≤ 4000000000
def theF (l : List Fl) (n : List UInt8) : Fl := (getF l n).getD ⟨n, [], []⟩
def newF (l : List Fl) (o : Op9) : Fl :=
  if o.k = 1 then { theF l o.n with t := (theF l o.n).t ++ o.d }
  else if o.k = 2 then { theF l o.n with s := (theF l o.n).s ++ (theF l o.n).t, t := [] }
  else if o.k = 3 then { theF l o.n with n := o.d }
  else theF l o.n
def doneF (l : List Fl) (o : Op9) : List Fl :=
  if o.k = 1 ∨ o.k = 2 then putF l (newF l o)
  else if o.k = 3 then putF (delF' l o.n) (newF l o)
  else delF' l o.n
def roomF (l : List Fl) (o : Op9) : Bool := decide ((doneF l o).length ≤ 16) && decide ((newF l o).s.length + (newF l o).t.length ≤ 16384)
theorem delF_len {l : List Fl} {n : List UInt8} : (delF' l n).length ≤ l.length := by
  have := posF_le l n
  unfold delF'
  simp only [List.length_append, List.length_take, List.length_drop]
  omega
theorem theF_n (l : List Fl) (n : List UInt8) : (theF l n).n = n := by
  unfold theF
  cases h : getF l n with
  | none => rfl
  | some f =>
    unfold getF at h
    have := List.find?_some h
    simpa using this
section
variable {env : Nat → Option Def} {fr : Fr} {σ σ' σ'' : St} {K : Fr → St → Prop} {Q : X → Fr → St → Prop} {p : PV} {bs : List UInt8}
theorem le16 (n : Nat) {z : Int} (hz : z = 16) : decide ((n : Int) ≤ z) = decide (n ≤ 16) := by
  subst hz
  by_cases h : n ≤ 16
  · rw [decide_eq_true h, decide_eq_true (show (n : Int) ≤ 16 by omega)]
  · rw [decide_eq_false h, decide_eq_false (show ¬ (n : Int) ≤ 16 by omega)]
theorem le16k (n : Nat) : decide ((n : Int) ≤ 16384) = decide (n ≤ 16384) := by
  by_cases h : n ≤ 16384
  · rw [decide_eq_true h, decide_eq_true (show (n : Int) ≤ 16384 by omega)]
  · rw [decide_eq_false h, decide_eq_false (show ¬ (n : Int) ≤ 16384 by omega)]
structure DoneP (σ : St) (L : List Fl) (B : Bool) (r : PV) (τ : St) : Prop where
  q : ∃ q, r = .tu [q, .sc (.bool B)] ∧ RowW τ 3 q (fls L)
  k : Kp (2000000 ≤ ·) σ τ
structure SwP (σ : St) (L : List Fl) (f : Fl) (x : X) (fr : Fr) (τ : St) : Prop where
  x : x = .normal
  q : ∃ q, fr 0 = q ∧ RowW τ 3 q (fls L)
  k : Kp (2000000 ≤ ·) σ τ
  m : τ.m 2000010 (σ.c 2000010) = some ⟨3, [fl f], true, true⟩
  f10 : fr 10 = .bx 2000010 (σ.c 2000010) 3 0 0
theorem newF_le {l : List Fl} {o : Op9} (h1 : (theF l o.n).s.length ≤ 4000000000) (h2 : (theF l o.n).t.length ≤ 4000000000) (h3 : o.d.length ≤ 4000000000) : (newF l o).s.length ≤ 9000000000 ∧ (newF l o).t.length ≤ 9000000000 := by
  generalize hF : theF l o.n = f at h1 h2
  by_cases k1 : o.k = 1
  · have e : newF l o = ⟨f.n, f.s, f.t ++ o.d⟩ := by unfold newF; rw [if_pos k1, hF]
    rw [e]
    exact ⟨show f.s.length ≤ _ by omega, show (f.t ++ o.d).length ≤ _ by rw [List.length_append]; omega⟩
  · by_cases k2 : o.k = 2
    · have e : newF l o = ⟨f.n, f.s ++ f.t, []⟩ := by unfold newF; rw [if_neg k1, if_pos k2, hF]
      rw [e]
      exact ⟨show (f.s ++ f.t).length ≤ _ by rw [List.length_append]; omega, by simp⟩
    · by_cases k3 : o.k = 3
      · have e : newF l o = ⟨o.d, f.s, f.t⟩ := by unfold newF; rw [if_neg k1, if_neg k2, if_pos k3, hF]
        rw [e]
        exact ⟨show f.s.length ≤ _ by omega, show f.t.length ≤ _ by omega⟩
      · have e : newF l o = f := by unfold newF; rw [if_neg k1, if_neg k2, if_neg k3, hF]
        rw [e]
        exact ⟨by omega, by omega⟩
theorem a267_1 (J : Has lja env) (D : Has ljd env) (O : Has ljb env) (G : Has ljf env) (G2 : Has ljg env) {l : List Fl} {o : Op9} (hw : RowW σ 3 p (fls l)) (hs : Srt l) (hl : l.length ≤ 900) (hsm : ∀ f ∈ l, f.Sm) (ho : o.Sm) (hF : Fresh σ)
    (hk1 : o.k = 1) :
    ∃ q σ', EV env 267 [p, .sc (.int .i64 (posF l o.n : Int)), .sc (.bool (hasF l o.n)), opV o] σ = some (.tu [q, .sc (.bool (roomF l o))], σ') ∧ RowW σ' 3 q (fls (doneF l o)) ∧ Kp (2000000 ≤ ·) σ σ' := by
  have hln := fls_len l
  have hle := posF_le l o.n
  obtain ⟨ok1, ok2⟩ := hw.ok
  have htn := theF_n l o.n
  have hts : (theF l o.n).s.length ≤ 4000000000 ∧ (theF l o.n).t.length ≤ 4000000000 := by
    unfold theF
    cases h : getF l o.n with
    | none => simp
    | some f => exact ⟨(hsm f ((getF_some hs).1 h).1).s, (hsm f ((getF_some hs).1 h).1).t⟩
  suffices h : ∃ r τ, EV env 267 [p, .sc (.int .i64 (posF l o.n : Int)), .sc (.bool (hasF l o.n)), opV o] σ = some (r, τ) ∧ DoneP σ (doneF l o) (roomF l o) r τ by
    obtain ⟨r, τ, h1, ⟨⟨q, rfl, h2⟩, h3⟩⟩ := h
    exact ⟨q, τ, h1, h2, h3⟩
  refine EV_wp' (σ := σ) (R := DoneP σ (doneF l o) (roomF l o)) (G2 (267, d267) (by simp [ljg])) rfl ?_
  unfold opV
  (repeat' first
    | refine w_seq ?_ | refine w_rg ?_ | refine wo_nil ?_ | refine g_skU ?_ | refine g_skT ?_ | refine g_skF ?_
    | ((first | apply s_plain | apply s_void | apply s_guard | apply g_goT | apply g_goF); · simp only [go_sem, Nat.reduceEqDiff, Nat.reduceAdd, Nat.reduceLeDiff, ok1, ok2, List.set_cons_succ]; (first | done | rfl))
    | ((first | apply g_T | apply g_F | apply g_gT | apply g_gF); · intro q1_; (first | intro q2_ | have q2_ := q1_); simp only [go_sem, Nat.reduceEqDiff, Nat.reduceAdd, Nat.reduceLeDiff, ok1, ok2, List.set_cons_succ, q1_, q2_]; (first | done | rfl))
    | fail
    )
  -- the file that is there, or none yet
  refine Wp.mono (Q := fun x fr τ => x = .normal ∧ τ.m 2000007 (σ.c 2000007) = some ⟨3, [.agg [.sc (.int .i64 o.k), txt o.n, txt o.d]], true, true⟩ ∧ τ.m 2000010 (σ.c 2000010) = some ⟨3, [fl (theF l o.n)], true, true⟩ ∧
    RowW τ 3 p (fls l) ∧ Kp (2000000 ≤ ·) σ τ ∧ fr 0 = p ∧ fr 1 = .sc (.int .i64 (posF l o.n : Int)) ∧ fr 7 = .bx 2000007 (σ.c 2000007) 3 0 0 ∧ fr 10 = .bx 2000010 (σ.c 2000010) 3 0 0) ?_ ?_
  · cases hh : hasF l o.n with
    | true =>
      obtain ⟨f0, q1, q2, q3⟩ := pos_at hs hh
      have hlt := (List.getElem?_eq_some_iff.1 q1).1
      have htf : theF l o.n = f0 := by unfold theF; rw [q3]; rfl
      rcases hw with ⟨rfl, hx⟩ | ⟨o1, g1, rfl, h3, h4⟩
      · have h0 : l.length = 0 := by rw [← hln, hx]; rfl
        omega
      · have e1 : (0 : Int) ≤ ((posF l o.n : Nat) : Int) ∧ ((posF l o.n : Nat) : Int) < ((fls l).length : Int) := by rw [hln]; omega
        have hne7 : ¬ (o1 = 2000007) := by omega
        have hne10 : ¬ (o1 = 2000010) := by omega
        have hy := fls_at q1
        unfold fl at hy
        rw [htf]
        (repeat' first
    | refine w_seq ?_ | refine w_rg ?_ | refine wo_nil ?_ | refine g_skU ?_ | refine g_skT ?_ | refine g_skF ?_
    | ((first | apply s_plain | apply s_void | apply s_guard | apply g_goT | apply g_goF); · simp only [go_sem, Nat.reduceEqDiff, Nat.reduceAdd, Nat.reduceLeDiff, e1, Int.toNat_natCast, hne7, hne10, false_and, h3, hy, List.set_cons_succ]; (first | done | rfl))
    | ((first | apply g_T | apply g_F | apply g_gT | apply g_gF); · intro q1_; (first | intro q2_ | have q2_ := q1_); simp only [go_sem, Nat.reduceEqDiff, Nat.reduceAdd, Nat.reduceLeDiff, e1, Int.toNat_natCast, hne7, hne10, false_and, h3, hy, List.set_cons_succ, q1_, q2_]; (first | done | rfl))
    | (apply w_condX; · simp only [go_sem, Nat.reduceEqDiff, Nat.reduceAdd, Nat.reduceLeDiff, e1, Int.toNat_natCast, hne7, hne10, false_and, h3, hy, List.set_cons_succ]; (first | done | rfl)); (first | refine wcd_T ?_ | refine wcd_F ?_)
    | refine w_skip ?_ | refine w_exit ?_ | refine w_ret ?_
    | fail
    )
        refine ⟨rfl, by simp only [go_sem, Nat.reduceEqDiff, Nat.reduceAdd, Nat.reduceLeDiff, List.set_cons_succ], by simp only [go_sem, Nat.reduceEqDiff, Nat.reduceAdd, Nat.reduceLeDiff, List.set_cons_succ, fl], ?_, ?_, by simp only [go_sem, Nat.reduceEqDiff, Nat.reduceAdd, Nat.reduceLeDiff], by simp only [go_sem, Nat.reduceEqDiff, Nat.reduceAdd, Nat.reduceLeDiff], by simp only [go_sem, Nat.reduceEqDiff, Nat.reduceAdd, Nat.reduceLeDiff], by simp only [go_sem, Nat.reduceEqDiff, Nat.reduceAdd, Nat.reduceLeDiff]⟩
        · exact ((((RowW.new (.inr ⟨o1, g1, rfl, h3, h4⟩) hF _ _).new (hF.new _ _) _ _).put (by decide) _).put (by decide) _)
        · exact ((((Kp.refl hF).new _ _).new _ _).put (x := ⟨3, [.agg [.sc (.string ⟨#[]⟩), .sc (.string ⟨#[]⟩), .sc (.string ⟨#[]⟩)]], true, true⟩) (by simp only [go_sem, Nat.reduceEqDiff, Nat.reduceAdd, Nat.reduceLeDiff]) (.inr (Nat.le_refl _)) _).put (x := ⟨3, [.agg [txt o.n, .sc (.string ⟨#[]⟩), .sc (.string ⟨#[]⟩)]], true, true⟩) (by simp only [go_sem, Nat.reduceEqDiff, Nat.reduceAdd, Nat.reduceLeDiff]) (.inr (Nat.le_refl _)) _
    | false =>
      have htf : theF l o.n = ⟨o.n, [], []⟩ := by
        unfold hasF at hh
        unfold theF
        rw [show getF l o.n = none by simpa using hh]; rfl
      rw [htf]
      (repeat' first
    | refine w_seq ?_ | refine w_rg ?_ | refine wo_nil ?_ | refine g_skU ?_ | refine g_skT ?_ | refine g_skF ?_
    | ((first | apply s_plain | apply s_void | apply s_guard | apply g_goT | apply g_goF); · simp only [go_sem, Nat.reduceEqDiff, Nat.reduceAdd, Nat.reduceLeDiff, List.set_cons_succ]; (first | done | rfl))
    | ((first | apply g_T | apply g_F | apply g_gT | apply g_gF); · intro q1_; (first | intro q2_ | have q2_ := q1_); simp only [go_sem, Nat.reduceEqDiff, Nat.reduceAdd, Nat.reduceLeDiff, List.set_cons_succ, q1_, q2_]; (first | done | rfl))
    | (apply w_condX; · simp only [go_sem, Nat.reduceEqDiff, Nat.reduceAdd, Nat.reduceLeDiff, List.set_cons_succ]; (first | done | rfl)); (first | refine wcd_T ?_ | refine wcd_F ?_)
    | refine w_skip ?_ | refine w_exit ?_ | refine w_ret ?_
    | fail
    )
      refine ⟨rfl, by simp only [go_sem, Nat.reduceEqDiff, Nat.reduceAdd, Nat.reduceLeDiff, List.set_cons_succ], by simp only [go_sem, Nat.reduceEqDiff, Nat.reduceAdd, Nat.reduceLeDiff, List.set_cons_succ, fl]; first | done | rfl, ?_, ?_, by simp only [go_sem, Nat.reduceEqDiff, Nat.reduceAdd, Nat.reduceLeDiff], by simp only [go_sem, Nat.reduceEqDiff, Nat.reduceAdd, Nat.reduceLeDiff], by simp only [go_sem, Nat.reduceEqDiff, Nat.reduceAdd, Nat.reduceLeDiff], by simp only [go_sem, Nat.reduceEqDiff, Nat.reduceAdd, Nat.reduceLeDiff]⟩
      · exact ((hw.new hF _ _).new (hF.new _ _) _ _).put (by decide) _
      · exact (((Kp.refl hF).new _ _).new _ _).put (x := ⟨3, [.agg [.sc (.string ⟨#[]⟩), .sc (.string ⟨#[]⟩), .sc (.string ⟨#[]⟩)]], true, true⟩) (by simp only [go_sem, Nat.reduceEqDiff, Nat.reduceAdd, Nat.reduceLeDiff]) (.inr (Nat.le_refl _)) _
  rintro x fr1 τ ⟨rfl, m7, m10, hw1, kp, f0, f1, f7, f10⟩
  try show Wp _ _ _ _ _
  (repeat' first
    | refine w_seq ?_ | refine w_rg ?_ | refine wo_nil ?_ | refine g_skU ?_ | refine g_skT ?_ | refine g_skF ?_
    | ((first | apply s_plain | apply s_void | apply s_guard | apply g_goT | apply g_goF); · simp only [go_sem, Nat.reduceEqDiff, Nat.reduceAdd, Nat.reduceLeDiff, f7, m7]; (first | done | rfl))
    | ((first | apply g_T | apply g_F | apply g_gT | apply g_gF); · intro q1_; (first | intro q2_ | have q2_ := q1_); simp only [go_sem, Nat.reduceEqDiff, Nat.reduceAdd, Nat.reduceLeDiff, f7, m7, q1_, q2_]; (first | done | rfl))
    | fail
    )
  have hlt10 : σ.c 2000010 < τ.c 2000010 := kp.f _ _ (by rw [m10]; rfl)
  refine Wp.mono (Q := SwP σ (doneF l o) (newF l o)) ?_ ?_
  · refine w_block ?_
    (repeat' first
    | refine w_seq ?_ | refine w_rg ?_ | refine wo_nil ?_ | refine g_skU ?_ | refine g_skT ?_ | refine g_skF ?_
    | ((first | apply s_plain | apply s_void | apply s_guard | apply g_goT | apply g_goF); · simp only [go_sem, Nat.reduceEqDiff, Nat.reduceAdd, Nat.reduceLeDiff]; (first | done | rfl))
    | ((first | apply g_T | apply g_F | apply g_gT | apply g_gF); · intro q1_; (first | intro q2_ | have q2_ := q1_); simp only [go_sem, Nat.reduceEqDiff, Nat.reduceAdd, Nat.reduceLeDiff, q1_, q2_]; (first | done | rfl))
    | fail
    )
    refine w_block ?_
    (repeat' first
    | refine w_seq ?_ | refine w_rg ?_ | refine wo_nil ?_ | refine g_skU ?_ | refine g_skT ?_ | refine g_skF ?_
    | ((first | apply s_plain | apply s_void | apply s_guard | apply g_goT | apply g_goF); · simp only [go_sem, Nat.reduceEqDiff, Nat.reduceAdd, Nat.reduceLeDiff]; (first | done | rfl))
    | ((first | apply g_T | apply g_F | apply g_gT | apply g_gF); · intro q1_; (first | intro q2_ | have q2_ := q1_); simp only [go_sem, Nat.reduceEqDiff, Nat.reduceAdd, Nat.reduceLeDiff, q1_, q2_]; (first | done | rfl))
    | fail
    )
    refine w_block ?_
    (repeat' first
    | refine w_seq ?_ | refine w_rg ?_ | refine wo_nil ?_ | refine g_skU ?_ | refine g_skT ?_ | refine g_skF ?_
    | ((first | apply s_plain | apply s_void | apply s_guard | apply g_goT | apply g_goF); · simp only [go_sem, Nat.reduceEqDiff, Nat.reduceAdd, Nat.reduceLeDiff]; (first | done | rfl))
    | ((first | apply g_T | apply g_F | apply g_gT | apply g_gF); · intro q1_; (first | intro q2_ | have q2_ := q1_); simp only [go_sem, Nat.reduceEqDiff, Nat.reduceAdd, Nat.reduceLeDiff, q1_, q2_]; (first | done | rfl))
    | fail
    )
    refine w_block ?_
    (repeat' first
    | refine w_seq ?_ | refine w_rg ?_ | refine wo_nil ?_ | refine g_skU ?_ | refine g_skT ?_ | refine g_skF ?_
    | ((first | apply s_plain | apply s_void | apply s_guard | apply g_goT | apply g_goF); · simp only [go_sem, Nat.reduceEqDiff, Nat.reduceAdd, Nat.reduceLeDiff]; (first | done | rfl))
    | ((first | apply g_T | apply g_F | apply g_gT | apply g_gF); · intro q1_; (first | intro q2_ | have q2_ := q1_); simp only [go_sem, Nat.reduceEqDiff, Nat.reduceAdd, Nat.reduceLeDiff, q1_, q2_]; (first | done | rfl))
    | fail
    )
    refine w_block ?_
    (repeat' first
    | refine w_seq ?_ | refine w_rg ?_ | refine wo_nil ?_ | refine g_skU ?_ | refine g_skT ?_ | refine g_skF ?_
    | ((first | apply s_plain | apply s_void | apply s_guard | apply g_goT | apply g_goF); · simp only [go_sem, Nat.reduceEqDiff, Nat.reduceAdd, Nat.reduceLeDiff]; (first | done | rfl))
    | ((first | apply g_T | apply g_F | apply g_gT | apply g_gF); · intro q1_; (first | intro q2_ | have q2_ := q1_); simp only [go_sem, Nat.reduceEqDiff, Nat.reduceAdd, Nat.reduceLeDiff, q1_, q2_]; (first | done | rfl))
    | fail
    )
    rw [hk1] at m7 ⊢
    have c1 : (theF l o.n).t.length + o.d.length ≤ 9223372036854775807 := by have := ho.d; omega
    have hnf : newF l o = ⟨(theF l o.n).n, (theF l o.n).s, (theF l o.n).t ++ o.d⟩ := by unfold newF; rw [if_pos hk1]
    have hdf : doneF l o = putF l (newF l o) := by unfold doneF; rw [if_pos (.inl hk1)]
    rw [hdf, hnf]
    unfold fl at m10
    (repeat' first
    | refine w_seq ?_ | refine w_rg ?_ | refine wo_nil ?_ | refine g_skU ?_ | refine g_skT ?_ | refine g_skF ?_
    | ((first | apply s_plain | apply s_void | apply s_guard | apply g_goT | apply g_goF); · simp only [go_sem, Nat.reduceEqDiff, Nat.reduceAdd, Nat.reduceLeDiff, beq_self_eq_true]; (first | done | rfl))
    | ((first | apply g_T | apply g_F | apply g_gT | apply g_gF); · intro q1_; (first | intro q2_ | have q2_ := q1_); simp only [go_sem, Nat.reduceEqDiff, Nat.reduceAdd, Nat.reduceLeDiff, beq_self_eq_true, q1_, q2_]; (first | done | rfl))
    | (apply w_condX; · simp only [go_sem, Nat.reduceEqDiff, Nat.reduceAdd, Nat.reduceLeDiff, beq_self_eq_true]; (first | done | rfl)); (first | refine wcd_T ?_ | refine wcd_F ?_)
    | refine w_skip ?_ | refine w_exit ?_ | refine w_ret ?_
    | fail
    )
    try simp only [if_true, if_false, Nat.reduceEqDiff, reduceCtorEq]
    try show Wp _ _ _ _ _
    (repeat' first
    | refine w_seq ?_ | refine w_rg ?_ | refine wo_nil ?_ | refine g_skU ?_ | refine g_skT ?_ | refine g_skF ?_
    | ((first | apply s_plain | apply s_void | apply s_guard | apply g_goT | apply g_goF); · simp only [go_sem, Nat.reduceEqDiff, Nat.reduceAdd, Nat.reduceLeDiff, f0, f7, f10, m7, m10, List.size_toArray, c1, List.set_cons_succ]; (first | done | rfl))
    | ((first | apply g_T | apply g_F | apply g_gT | apply g_gF); · intro q1_; (first | intro q2_ | have q2_ := q1_); simp only [go_sem, Nat.reduceEqDiff, Nat.reduceAdd, Nat.reduceLeDiff, f0, f7, f10, m7, m10, List.size_toArray, c1, List.set_cons_succ, q1_, q2_]; (first | done | rfl))
    | fail
    )
    have kq := kp.put m10 (.inr (Nat.le_refl _)) (some ⟨3, [.agg [txt (theF l o.n).n, txt (theF l o.n).s, txt ((theF l o.n).t ++ o.d)]], true, true⟩)
    obtain ⟨q, τ3, h1, h2, h3⟩ := a277 J D O G (f := ⟨(theF l o.n).n, (theF l o.n).s, (theF l o.n).t ++ o.d⟩) (hw1.put (o := 2000010) (g := σ.c 2000010) (by decide) (some ⟨3, [.agg [txt (theF l o.n).n, txt (theF l o.n).s, txt ((theF l o.n).t ++ o.d)]], true, true⟩)) hs (by omega) kq.f
    refine s_plain (v := q) (σ' := τ3) (by simp only [go_sem, Nat.reduceEqDiff, Nat.reduceAdd, Nat.reduceLeDiff]; exact h1) ?_
    have k3 := kq.trans h3
    have m3 : τ3.m 2000010 (σ.c 2000010) = some ⟨3, [.agg [txt (theF l o.n).n, txt (theF l o.n).s, txt ((theF l o.n).t ++ o.d)]], true, true⟩ := by
      rw [h3.m 2000010 (σ.c 2000010) (by decide) hlt10]; simp only [go_sem, Nat.reduceEqDiff, Nat.reduceAdd, Nat.reduceLeDiff]
    (repeat' first
    | refine w_seq ?_ | refine w_rg ?_ | refine wo_nil ?_ | refine g_skU ?_ | refine g_skT ?_ | refine g_skF ?_
    | ((first | apply s_plain | apply s_void | apply s_guard | apply g_goT | apply g_goF); · simp only [go_sem, Nat.reduceEqDiff, Nat.reduceAdd, Nat.reduceLeDiff]; (first | done | rfl))
    | ((first | apply g_T | apply g_F | apply g_gT | apply g_gF); · intro q1_; (first | intro q2_ | have q2_ := q1_); simp only [go_sem, Nat.reduceEqDiff, Nat.reduceAdd, Nat.reduceLeDiff, q1_, q2_]; (first | done | rfl))
    | (apply w_condX; · simp only [go_sem, Nat.reduceEqDiff, Nat.reduceAdd, Nat.reduceLeDiff]; (first | done | rfl)); (first | refine wcd_T ?_ | refine wcd_F ?_)
    | refine w_skip ?_ | refine w_exit ?_ | refine w_ret ?_
    | fail
    )
    try simp only [if_true, if_false, Nat.reduceEqDiff, reduceCtorEq]
    exact ⟨rfl, ⟨q, by simp only [go_sem, Nat.reduceEqDiff, Nat.reduceAdd, Nat.reduceLeDiff], h2⟩, k3, m3, by simp only [go_sem, Nat.reduceEqDiff, Nat.reduceAdd, Nat.reduceLeDiff, f10]⟩
  · rintro x fr2 τ2 ⟨rfl, ⟨q, g0, hq⟩, kq, mq, g10⟩
    try show Wp _ _ _ _ _
    have hlp := hq.lenP
    have hdl := fls_len (doneF l o)
    obtain ⟨ok3, ok4⟩ := hq.ok
    unfold fl at mq
    have hnf1 := newF_le hts.1 hts.2 ho.d
    have hroom : roomF l o = (decide ((doneF l o).length ≤ 16) && decide ((newF l o).s.length + (newF l o).t.length ≤ 16384)) := rfl
    rw [hroom]
    clear hroom hw1 m7 m10 htn hts
    generalize newF l o = nf at mq hnf1 ⊢
    generalize hdd : doneF l o = df at hq hlp hdl ⊢
    have w1 : IntKind.i64.wrap ((nf.s.length : Int) + (nf.t.length : Int)) = ((nf.s.length + nf.t.length : Nat) : Int) := by rw [IntKind.wrap_i64]; omega
    have e1 := le16k (nf.s.length + nf.t.length)
    have e2 := le16 df.length (z := 16) rfl
    generalize decide (nf.s.length + nf.t.length ≤ 16384) = B at e1 ⊢
    generalize decide (df.length ≤ 16) = C at e2 ⊢
    cases C with
    | true =>
      refine w_seq (w_rg ?_)
      refine s_plain (v := q) (σ' := τ2) (by simp only [go_sem, Nat.reduceEqDiff, Nat.reduceAdd, Nat.reduceLeDiff, g0]) ?_
      refine s_plain (v := q) (σ' := τ2) (by simp only [go_sem, Nat.reduceEqDiff, Nat.reduceAdd, Nat.reduceLeDiff, g0]) ?_
      refine s_plain (v := .sc (.int .i64 (df.length : Int))) (σ' := τ2) (by simp only [go_sem, Nat.reduceEqDiff, Nat.reduceAdd, Nat.reduceLeDiff, hlp, hdl]; first | done | rfl) ?_
      refine s_plain (v := .sc (.bool true)) (σ' := τ2) (by simp only [go_sem, Nat.reduceEqDiff, Nat.reduceAdd, Nat.reduceLeDiff, e2]) ?_
      refine s_plain (v := .sc (.bool true)) (σ' := τ2) (by simp only [go_sem, Nat.reduceEqDiff, Nat.reduceAdd, Nat.reduceLeDiff]) ?_
      refine s_guard (g := .sc (.bool true)) (by simp only [go_sem, Nat.reduceEqDiff, Nat.reduceAdd, Nat.reduceLeDiff]) ?_
      refine g_goT (v := .bx 2000010 (σ.c 2000010) 3 0 1) (σ' := τ2) (by simp only [go_sem, Nat.reduceEqDiff, Nat.reduceAdd, Nat.reduceLeDiff, g10]) ?_
      refine s_guard (g := .sc (.bool true)) (by simp only [go_sem, Nat.reduceEqDiff, Nat.reduceAdd, Nat.reduceLeDiff]) ?_
      refine g_goT (v := txt nf.s) (σ' := τ2) (by simp only [go_sem, Nat.reduceEqDiff, Nat.reduceAdd, Nat.reduceLeDiff, mq]) ?_
      refine s_guard (g := .sc (.bool true)) (by simp only [go_sem, Nat.reduceEqDiff, Nat.reduceAdd, Nat.reduceLeDiff]) ?_
      refine g_goT (v := .sc (.int .i64 (nf.s.length : Int))) (σ' := τ2) (by simp only [go_sem, Nat.reduceEqDiff, Nat.reduceAdd, Nat.reduceLeDiff, List.size_toArray]) ?_
      refine s_guard (g := .sc (.bool true)) (by simp only [go_sem, Nat.reduceEqDiff, Nat.reduceAdd, Nat.reduceLeDiff]) ?_
      refine g_goT (v := .bx 2000010 (σ.c 2000010) 3 0 2) (σ' := τ2) (by simp only [go_sem, Nat.reduceEqDiff, Nat.reduceAdd, Nat.reduceLeDiff, g10]) ?_
      refine s_guard (g := .sc (.bool true)) (by simp only [go_sem, Nat.reduceEqDiff, Nat.reduceAdd, Nat.reduceLeDiff]) ?_
      refine g_goT (v := txt nf.t) (σ' := τ2) (by simp only [go_sem, Nat.reduceEqDiff, Nat.reduceAdd, Nat.reduceLeDiff, mq]) ?_
      refine s_guard (g := .sc (.bool true)) (by simp only [go_sem, Nat.reduceEqDiff, Nat.reduceAdd, Nat.reduceLeDiff]) ?_
      refine g_goT (v := .sc (.int .i64 (nf.t.length : Int))) (σ' := τ2) (by simp only [go_sem, Nat.reduceEqDiff, Nat.reduceAdd, Nat.reduceLeDiff, List.size_toArray]) ?_
      refine s_guard (g := .sc (.bool true)) (by simp only [go_sem, Nat.reduceEqDiff, Nat.reduceAdd, Nat.reduceLeDiff]) ?_
      refine g_goT (v := .sc (.int .i64 ((nf.s.length + nf.t.length : Nat) : Int))) (σ' := τ2) (by simp only [go_sem, Nat.reduceEqDiff, Nat.reduceAdd, Nat.reduceLeDiff, w1]) ?_
      refine s_guard (g := .sc (.bool true)) (by simp only [go_sem, Nat.reduceEqDiff, Nat.reduceAdd, Nat.reduceLeDiff]) ?_
      refine g_goT (v := .sc (.bool B)) (σ' := τ2) (by simp only [go_sem, Nat.reduceEqDiff, Nat.reduceAdd, Nat.reduceLeDiff, e1]) ?_
      refine s_plain (v := .sc (.bool B)) (σ' := τ2) (by simp only [go_sem, Nat.reduceEqDiff, Nat.reduceAdd, Nat.reduceLeDiff]) ?_
      refine s_plain (v := q) (σ' := τ2) (by simp only [go_sem, Nat.reduceEqDiff, Nat.reduceAdd, Nat.reduceLeDiff]) ?_
      refine s_plain (v := .sc (.bool B)) (σ' := τ2) (by simp only [go_sem, Nat.reduceEqDiff, Nat.reduceAdd, Nat.reduceLeDiff]) ?_
      refine wo_nil (w_ret ?_)
      exact ⟨.inr rfl, .tu [q, .sc (.bool B)], by simp only [go_sem, Nat.reduceEqDiff, Nat.reduceAdd, Nat.reduceLeDiff, retOf, resOf], ⟨⟨q, rfl, hq⟩, kq⟩⟩
    | false =>
      refine w_seq (w_rg ?_)
      refine s_plain (v := q) (σ' := τ2) (by simp only [go_sem, Nat.reduceEqDiff, Nat.reduceAdd, Nat.reduceLeDiff, g0]) ?_
      refine s_plain (v := q) (σ' := τ2) (by simp only [go_sem, Nat.reduceEqDiff, Nat.reduceAdd, Nat.reduceLeDiff, g0]) ?_
      refine s_plain (v := .sc (.int .i64 (df.length : Int))) (σ' := τ2) (by simp only [go_sem, Nat.reduceEqDiff, Nat.reduceAdd, Nat.reduceLeDiff, hlp, hdl]; first | done | rfl) ?_
      refine s_plain (v := .sc (.bool false)) (σ' := τ2) (by simp only [go_sem, Nat.reduceEqDiff, Nat.reduceAdd, Nat.reduceLeDiff, e2]) ?_
      refine s_plain (v := .sc (.bool false)) (σ' := τ2) (by simp only [go_sem, Nat.reduceEqDiff, Nat.reduceAdd, Nat.reduceLeDiff]) ?_
      iterate 8 (refine s_guard (g := .sc (.bool false)) (by simp only [go_sem, Nat.reduceEqDiff, Nat.reduceAdd, Nat.reduceLeDiff]) ?_; refine g_skT ?_)
      refine s_plain (v := .sc (.bool false)) (σ' := τ2) (by simp only [go_sem, Nat.reduceEqDiff, Nat.reduceAdd, Nat.reduceLeDiff]) ?_
      refine s_plain (v := q) (σ' := τ2) (by simp only [go_sem, Nat.reduceEqDiff, Nat.reduceAdd, Nat.reduceLeDiff]) ?_
      refine s_plain (v := .sc (.bool false)) (σ' := τ2) (by simp only [go_sem, Nat.reduceEqDiff, Nat.reduceAdd, Nat.reduceLeDiff]) ?_
      refine wo_nil (w_ret ?_)
      exact ⟨.inr rfl, .tu [q, .sc (.bool false)], by simp only [go_sem, Nat.reduceEqDiff, Nat.reduceAdd, Nat.reduceLeDiff, retOf, resOf], ⟨⟨q, rfl, hq⟩, kq⟩⟩
theorem a267_2 (J : Has lja env) (D : Has ljd env) (O : Has ljb env) (G : Has ljf env) (G2 : Has ljg env) {l : List Fl} {o : Op9} (hw : RowW σ 3 p (fls l)) (hs : Srt l) (hl : l.length ≤ 900) (hsm : ∀ f ∈ l, f.Sm) (ho : o.Sm) (hF : Fresh σ)
    (hh : hasF l o.n = true) (hk2 : o.k = 2) :
    ∃ q σ', EV env 267 [p, .sc (.int .i64 (posF l o.n : Int)), .sc (.bool (hasF l o.n)), opV o] σ = some (.tu [q, .sc (.bool (roomF l o))], σ') ∧ RowW σ' 3 q (fls (doneF l o)) ∧ Kp (2000000 ≤ ·) σ σ' := by
  have hln := fls_len l
  have hle := posF_le l o.n
  obtain ⟨ok1, ok2⟩ := hw.ok
  have htn := theF_n l o.n
  have hts : (theF l o.n).s.length ≤ 4000000000 ∧ (theF l o.n).t.length ≤ 4000000000 := by
    unfold theF
    cases h : getF l o.n with
    | none => simp
    | some f => exact ⟨(hsm f ((getF_some hs).1 h).1).s, (hsm f ((getF_some hs).1 h).1).t⟩
  suffices h : ∃ r τ, EV env 267 [p, .sc (.int .i64 (posF l o.n : Int)), .sc (.bool (hasF l o.n)), opV o] σ = some (r, τ) ∧ DoneP σ (doneF l o) (roomF l o) r τ by
    obtain ⟨r, τ, h1, ⟨⟨q, rfl, h2⟩, h3⟩⟩ := h
    exact ⟨q, τ, h1, h2, h3⟩
  refine EV_wp' (σ := σ) (R := DoneP σ (doneF l o) (roomF l o)) (G2 (267, d267) (by simp [ljg])) rfl ?_
  unfold opV
  (repeat' first
    | refine w_seq ?_ | refine w_rg ?_ | refine wo_nil ?_ | refine g_skU ?_ | refine g_skT ?_ | refine g_skF ?_
    | ((first | apply s_plain | apply s_void | apply s_guard | apply g_goT | apply g_goF); · simp only [go_sem, Nat.reduceEqDiff, Nat.reduceAdd, Nat.reduceLeDiff, ok1, ok2, List.set_cons_succ]; (first | done | rfl))
    | ((first | apply g_T | apply g_F | apply g_gT | apply g_gF); · intro q1_; (first | intro q2_ | have q2_ := q1_); simp only [go_sem, Nat.reduceEqDiff, Nat.reduceAdd, Nat.reduceLeDiff, ok1, ok2, List.set_cons_succ, q1_, q2_]; (first | done | rfl))
    | fail
    )
  -- the file that is there, or none yet
  refine Wp.mono (Q := fun x fr τ => x = .normal ∧ τ.m 2000007 (σ.c 2000007) = some ⟨3, [.agg [.sc (.int .i64 o.k), txt o.n, txt o.d]], true, true⟩ ∧ τ.m 2000010 (σ.c 2000010) = some ⟨3, [fl (theF l o.n)], true, true⟩ ∧
    RowW τ 3 p (fls l) ∧ Kp (2000000 ≤ ·) σ τ ∧ fr 0 = p ∧ fr 1 = .sc (.int .i64 (posF l o.n : Int)) ∧ fr 7 = .bx 2000007 (σ.c 2000007) 3 0 0 ∧ fr 10 = .bx 2000010 (σ.c 2000010) 3 0 0) ?_ ?_
  · cases hh : hasF l o.n with
    | true =>
      obtain ⟨f0, q1, q2, q3⟩ := pos_at hs hh
      have hlt := (List.getElem?_eq_some_iff.1 q1).1
      have htf : theF l o.n = f0 := by unfold theF; rw [q3]; rfl
      rcases hw with ⟨rfl, hx⟩ | ⟨o1, g1, rfl, h3, h4⟩
      · have h0 : l.length = 0 := by rw [← hln, hx]; rfl
        omega
      · have e1 : (0 : Int) ≤ ((posF l o.n : Nat) : Int) ∧ ((posF l o.n : Nat) : Int) < ((fls l).length : Int) := by rw [hln]; omega
        have hne7 : ¬ (o1 = 2000007) := by omega
        have hne10 : ¬ (o1 = 2000010) := by omega
        have hy := fls_at q1
        unfold fl at hy
        rw [htf]
        (repeat' first
    | refine w_seq ?_ | refine w_rg ?_ | refine wo_nil ?_ | refine g_skU ?_ | refine g_skT ?_ | refine g_skF ?_
    | ((first | apply s_plain | apply s_void | apply s_guard | apply g_goT | apply g_goF); · simp only [go_sem, Nat.reduceEqDiff, Nat.reduceAdd, Nat.reduceLeDiff, e1, Int.toNat_natCast, hne7, hne10, false_and, h3, hy, List.set_cons_succ]; (first | done | rfl))
    | ((first | apply g_T | apply g_F | apply g_gT | apply g_gF); · intro q1_; (first | intro q2_ | have q2_ := q1_); simp only [go_sem, Nat.reduceEqDiff, Nat.reduceAdd, Nat.reduceLeDiff, e1, Int.toNat_natCast, hne7, hne10, false_and, h3, hy, List.set_cons_succ, q1_, q2_]; (first | done | rfl))
    | (apply w_condX; · simp only [go_sem, Nat.reduceEqDiff, Nat.reduceAdd, Nat.reduceLeDiff, e1, Int.toNat_natCast, hne7, hne10, false_and, h3, hy, List.set_cons_succ]; (first | done | rfl)); (first | refine wcd_T ?_ | refine wcd_F ?_)
    | refine w_skip ?_ | refine w_exit ?_ | refine w_ret ?_
    | fail
    )
        refine ⟨rfl, by simp only [go_sem, Nat.reduceEqDiff, Nat.reduceAdd, Nat.reduceLeDiff, List.set_cons_succ], by simp only [go_sem, Nat.reduceEqDiff, Nat.reduceAdd, Nat.reduceLeDiff, List.set_cons_succ, fl], ?_, ?_, by simp only [go_sem, Nat.reduceEqDiff, Nat.reduceAdd, Nat.reduceLeDiff], by simp only [go_sem, Nat.reduceEqDiff, Nat.reduceAdd, Nat.reduceLeDiff], by simp only [go_sem, Nat.reduceEqDiff, Nat.reduceAdd, Nat.reduceLeDiff], by simp only [go_sem, Nat.reduceEqDiff, Nat.reduceAdd, Nat.reduceLeDiff]⟩
        · exact ((((RowW.new (.inr ⟨o1, g1, rfl, h3, h4⟩) hF _ _).new (hF.new _ _) _ _).put (by decide) _).put (by decide) _)
        · exact ((((Kp.refl hF).new _ _).new _ _).put (x := ⟨3, [.agg [.sc (.string ⟨#[]⟩), .sc (.string ⟨#[]⟩), .sc (.string ⟨#[]⟩)]], true, true⟩) (by simp only [go_sem, Nat.reduceEqDiff, Nat.reduceAdd, Nat.reduceLeDiff]) (.inr (Nat.le_refl _)) _).put (x := ⟨3, [.agg [txt o.n, .sc (.string ⟨#[]⟩), .sc (.string ⟨#[]⟩)]], true, true⟩) (by simp only [go_sem, Nat.reduceEqDiff, Nat.reduceAdd, Nat.reduceLeDiff]) (.inr (Nat.le_refl _)) _
    | false =>
      have htf : theF l o.n = ⟨o.n, [], []⟩ := by
        unfold hasF at hh
        unfold theF
        rw [show getF l o.n = none by simpa using hh]; rfl
      rw [htf]
      (repeat' first
    | refine w_seq ?_ | refine w_rg ?_ | refine wo_nil ?_ | refine g_skU ?_ | refine g_skT ?_ | refine g_skF ?_
    | ((first | apply s_plain | apply s_void | apply s_guard | apply g_goT | apply g_goF); · simp only [go_sem, Nat.reduceEqDiff, Nat.reduceAdd, Nat.reduceLeDiff, List.set_cons_succ]; (first | done | rfl))
    | ((first | apply g_T | apply g_F | apply g_gT | apply g_gF); · intro q1_; (first | intro q2_ | have q2_ := q1_); simp only [go_sem, Nat.reduceEqDiff, Nat.reduceAdd, Nat.reduceLeDiff, List.set_cons_succ, q1_, q2_]; (first | done | rfl))
    | (apply w_condX; · simp only [go_sem, Nat.reduceEqDiff, Nat.reduceAdd, Nat.reduceLeDiff, List.set_cons_succ]; (first | done | rfl)); (first | refine wcd_T ?_ | refine wcd_F ?_)
    | refine w_skip ?_ | refine w_exit ?_ | refine w_ret ?_
    | fail
    )
      refine ⟨rfl, by simp only [go_sem, Nat.reduceEqDiff, Nat.reduceAdd, Nat.reduceLeDiff, List.set_cons_succ], by simp only [go_sem, Nat.reduceEqDiff, Nat.reduceAdd, Nat.reduceLeDiff, List.set_cons_succ, fl]; first | done | rfl, ?_, ?_, by simp only [go_sem, Nat.reduceEqDiff, Nat.reduceAdd, Nat.reduceLeDiff], by simp only [go_sem, Nat.reduceEqDiff, Nat.reduceAdd, Nat.reduceLeDiff], by simp only [go_sem, Nat.reduceEqDiff, Nat.reduceAdd, Nat.reduceLeDiff], by simp only [go_sem, Nat.reduceEqDiff, Nat.reduceAdd, Nat.reduceLeDiff]⟩
      · exact ((hw.new hF _ _).new (hF.new _ _) _ _).put (by decide) _
      · exact (((Kp.refl hF).new _ _).new _ _).put (x := ⟨3, [.agg [.sc (.string ⟨#[]⟩), .sc (.string ⟨#[]⟩), .sc (.string ⟨#[]⟩)]], true, true⟩) (by simp only [go_sem, Nat.reduceEqDiff, Nat.reduceAdd, Nat.reduceLeDiff]) (.inr (Nat.le_refl _)) _
  rintro x fr1 τ ⟨rfl, m7, m10, hw1, kp, f0, f1, f7, f10⟩
  try show Wp _ _ _ _ _
  (repeat' first
    | refine w_seq ?_ | refine w_rg ?_ | refine wo_nil ?_ | refine g_skU ?_ | refine g_skT ?_ | refine g_skF ?_
    | ((first | apply s_plain | apply s_void | apply s_guard | apply g_goT | apply g_goF); · simp only [go_sem, Nat.reduceEqDiff, Nat.reduceAdd, Nat.reduceLeDiff, f7, m7]; (first | done | rfl))
    | ((first | apply g_T | apply g_F | apply g_gT | apply g_gF); · intro q1_; (first | intro q2_ | have q2_ := q1_); simp only [go_sem, Nat.reduceEqDiff, Nat.reduceAdd, Nat.reduceLeDiff, f7, m7, q1_, q2_]; (first | done | rfl))
    | fail
    )
  have hlt10 : σ.c 2000010 < τ.c 2000010 := kp.f _ _ (by rw [m10]; rfl)
  refine Wp.mono (Q := SwP σ (doneF l o) (newF l o)) ?_ ?_
  · refine w_block ?_
    (repeat' first
    | refine w_seq ?_ | refine w_rg ?_ | refine wo_nil ?_ | refine g_skU ?_ | refine g_skT ?_ | refine g_skF ?_
    | ((first | apply s_plain | apply s_void | apply s_guard | apply g_goT | apply g_goF); · simp only [go_sem, Nat.reduceEqDiff, Nat.reduceAdd, Nat.reduceLeDiff]; (first | done | rfl))
    | ((first | apply g_T | apply g_F | apply g_gT | apply g_gF); · intro q1_; (first | intro q2_ | have q2_ := q1_); simp only [go_sem, Nat.reduceEqDiff, Nat.reduceAdd, Nat.reduceLeDiff, q1_, q2_]; (first | done | rfl))
    | fail
    )
    refine w_block ?_
    (repeat' first
    | refine w_seq ?_ | refine w_rg ?_ | refine wo_nil ?_ | refine g_skU ?_ | refine g_skT ?_ | refine g_skF ?_
    | ((first | apply s_plain | apply s_void | apply s_guard | apply g_goT | apply g_goF); · simp only [go_sem, Nat.reduceEqDiff, Nat.reduceAdd, Nat.reduceLeDiff]; (first | done | rfl))
    | ((first | apply g_T | apply g_F | apply g_gT | apply g_gF); · intro q1_; (first | intro q2_ | have q2_ := q1_); simp only [go_sem, Nat.reduceEqDiff, Nat.reduceAdd, Nat.reduceLeDiff, q1_, q2_]; (first | done | rfl))
    | fail
    )
    refine w_block ?_
    (repeat' first
    | refine w_seq ?_ | refine w_rg ?_ | refine wo_nil ?_ | refine g_skU ?_ | refine g_skT ?_ | refine g_skF ?_
    | ((first | apply s_plain | apply s_void | apply s_guard | apply g_goT | apply g_goF); · simp only [go_sem, Nat.reduceEqDiff, Nat.reduceAdd, Nat.reduceLeDiff]; (first | done | rfl))
    | ((first | apply g_T | apply g_F | apply g_gT | apply g_gF); · intro q1_; (first | intro q2_ | have q2_ := q1_); simp only [go_sem, Nat.reduceEqDiff, Nat.reduceAdd, Nat.reduceLeDiff, q1_, q2_]; (first | done | rfl))
    | fail
    )
    refine w_block ?_
    (repeat' first
    | refine w_seq ?_ | refine w_rg ?_ | refine wo_nil ?_ | refine g_skU ?_ | refine g_skT ?_ | refine g_skF ?_
    | ((first | apply s_plain | apply s_void | apply s_guard | apply g_goT | apply g_goF); · simp only [go_sem, Nat.reduceEqDiff, Nat.reduceAdd, Nat.reduceLeDiff]; (first | done | rfl))
    | ((first | apply g_T | apply g_F | apply g_gT | apply g_gF); · intro q1_; (first | intro q2_ | have q2_ := q1_); simp only [go_sem, Nat.reduceEqDiff, Nat.reduceAdd, Nat.reduceLeDiff, q1_, q2_]; (first | done | rfl))
    | fail
    )
    refine w_block ?_
    (repeat' first
    | refine w_seq ?_ | refine w_rg ?_ | refine wo_nil ?_ | refine g_skU ?_ | refine g_skT ?_ | refine g_skF ?_
    | ((first | apply s_plain | apply s_void | apply s_guard | apply g_goT | apply g_goF); · simp only [go_sem, Nat.reduceEqDiff, Nat.reduceAdd, Nat.reduceLeDiff]; (first | done | rfl))
    | ((first | apply g_T | apply g_F | apply g_gT | apply g_gF); · intro q1_; (first | intro q2_ | have q2_ := q1_); simp only [go_sem, Nat.reduceEqDiff, Nat.reduceAdd, Nat.reduceLeDiff, q1_, q2_]; (first | done | rfl))
    | fail
    )
    rw [hk2] at m7 ⊢
    have c1 : (theF l o.n).s.length + (theF l o.n).t.length ≤ 9223372036854775807 := by omega
    have hnf : newF l o = ⟨(theF l o.n).n, (theF l o.n).s ++ (theF l o.n).t, []⟩ := by unfold newF; rw [if_neg (by omega), if_pos hk2]
    have hdf : doneF l o = putF l (newF l o) := by unfold doneF; rw [if_pos (.inr hk2)]
    rw [hdf, hnf]
    unfold fl at m10
    have d1 : ((2 : Int) == 1) = false := rfl
    (repeat' first
    | refine w_seq ?_ | refine w_rg ?_ | refine wo_nil ?_ | refine g_skU ?_ | refine g_skT ?_ | refine g_skF ?_
    | ((first | apply s_plain | apply s_void | apply s_guard | apply g_goT | apply g_goF); · simp only [go_sem, Nat.reduceEqDiff, Nat.reduceAdd, Nat.reduceLeDiff, beq_self_eq_true, d1]; (first | done | rfl))
    | ((first | apply g_T | apply g_F | apply g_gT | apply g_gF); · intro q1_; (first | intro q2_ | have q2_ := q1_); simp only [go_sem, Nat.reduceEqDiff, Nat.reduceAdd, Nat.reduceLeDiff, beq_self_eq_true, d1, q1_, q2_]; (first | done | rfl))
    | (apply w_condX; · simp only [go_sem, Nat.reduceEqDiff, Nat.reduceAdd, Nat.reduceLeDiff, beq_self_eq_true, d1]; (first | done | rfl)); (first | refine wcd_T ?_ | refine wcd_F ?_)
    | refine w_skip ?_ | refine w_exit ?_ | refine w_ret ?_
    | fail
    )
    try simp only [if_true, if_false, Nat.reduceEqDiff, reduceCtorEq]
    try show Wp _ _ _ _ _
    (repeat' first
    | refine w_seq ?_ | refine w_rg ?_ | refine wo_nil ?_ | refine g_skU ?_ | refine g_skT ?_ | refine g_skF ?_
    | ((first | apply s_plain | apply s_void | apply s_guard | apply g_goT | apply g_goF); · simp only [go_sem, Nat.reduceEqDiff, Nat.reduceAdd, Nat.reduceLeDiff, f0, f7, f10, m7, m10, List.size_toArray, c1, List.set_cons_succ]; (first | done | rfl))
    | ((first | apply g_T | apply g_F | apply g_gT | apply g_gF); · intro q1_; (first | intro q2_ | have q2_ := q1_); simp only [go_sem, Nat.reduceEqDiff, Nat.reduceAdd, Nat.reduceLeDiff, f0, f7, f10, m7, m10, List.size_toArray, c1, List.set_cons_succ, q1_, q2_]; (first | done | rfl))
    | fail
    )
    have kq := (kp.put m10 (.inr (Nat.le_refl _)) (some ⟨3, [.agg [txt (theF l o.n).n, txt ((theF l o.n).s ++ (theF l o.n).t), txt (theF l o.n).t]], true, true⟩)).put (o := 2000010) (g := σ.c 2000010) (x := ⟨3, [.agg [txt (theF l o.n).n, txt ((theF l o.n).s ++ (theF l o.n).t), txt (theF l o.n).t]], true, true⟩) (by simp only [go_sem, Nat.reduceEqDiff, Nat.reduceAdd, Nat.reduceLeDiff]) (.inr (Nat.le_refl _)) (some ⟨3, [.agg [txt (theF l o.n).n, txt ((theF l o.n).s ++ (theF l o.n).t), txt []]], true, true⟩)
    obtain ⟨q, τ3, h1, h2, h3⟩ := a277 J D O G (f := ⟨(theF l o.n).n, (theF l o.n).s ++ (theF l o.n).t, []⟩) ((hw1.put (o := 2000010) (g := σ.c 2000010) (by decide) (some ⟨3, [.agg [txt (theF l o.n).n, txt ((theF l o.n).s ++ (theF l o.n).t), txt (theF l o.n).t]], true, true⟩)).put (o := 2000010) (g := σ.c 2000010) (by decide) (some ⟨3, [.agg [txt (theF l o.n).n, txt ((theF l o.n).s ++ (theF l o.n).t), txt []]], true, true⟩)) hs (by omega) kq.f
    refine s_plain (v := q) (σ' := τ3) (by simp only [go_sem, Nat.reduceEqDiff, Nat.reduceAdd, Nat.reduceLeDiff]; exact h1) ?_
    have k3 := kq.trans h3
    have m3 : τ3.m 2000010 (σ.c 2000010) = some ⟨3, [.agg [txt (theF l o.n).n, txt ((theF l o.n).s ++ (theF l o.n).t), txt []]], true, true⟩ := by
      rw [h3.m 2000010 (σ.c 2000010) (by decide) hlt10]; simp only [go_sem, Nat.reduceEqDiff, Nat.reduceAdd, Nat.reduceLeDiff]
    (repeat' first
    | refine w_seq ?_ | refine w_rg ?_ | refine wo_nil ?_ | refine g_skU ?_ | refine g_skT ?_ | refine g_skF ?_
    | ((first | apply s_plain | apply s_void | apply s_guard | apply g_goT | apply g_goF); · simp only [go_sem, Nat.reduceEqDiff, Nat.reduceAdd, Nat.reduceLeDiff]; (first | done | rfl))
    | ((first | apply g_T | apply g_F | apply g_gT | apply g_gF); · intro q1_; (first | intro q2_ | have q2_ := q1_); simp only [go_sem, Nat.reduceEqDiff, Nat.reduceAdd, Nat.reduceLeDiff, q1_, q2_]; (first | done | rfl))
    | (apply w_condX; · simp only [go_sem, Nat.reduceEqDiff, Nat.reduceAdd, Nat.reduceLeDiff]; (first | done | rfl)); (first | refine wcd_T ?_ | refine wcd_F ?_)
    | refine w_skip ?_ | refine w_exit ?_ | refine w_ret ?_
    | fail
    )
    try simp only [if_true, if_false, Nat.reduceEqDiff, reduceCtorEq]
    exact ⟨rfl, ⟨q, by simp only [go_sem, Nat.reduceEqDiff, Nat.reduceAdd, Nat.reduceLeDiff], h2⟩, k3, m3, by simp only [go_sem, Nat.reduceEqDiff, Nat.reduceAdd, Nat.reduceLeDiff, f10]⟩
  · rintro x fr2 τ2 ⟨rfl, ⟨q, g0, hq⟩, kq, mq, g10⟩
    try show Wp _ _ _ _ _
    have hlp := hq.lenP
    have hdl := fls_len (doneF l o)
    obtain ⟨ok3, ok4⟩ := hq.ok
    unfold fl at mq
    have hnf1 := newF_le hts.1 hts.2 ho.d
    have hroom : roomF l o = (decide ((doneF l o).length ≤ 16) && decide ((newF l o).s.length + (newF l o).t.length ≤ 16384)) := rfl
    rw [hroom]
    clear hroom hw1 m7 m10 htn hts
    generalize newF l o = nf at mq hnf1 ⊢
    generalize hdd : doneF l o = df at hq hlp hdl ⊢
    have w1 : IntKind.i64.wrap ((nf.s.length : Int) + (nf.t.length : Int)) = ((nf.s.length + nf.t.length : Nat) : Int) := by rw [IntKind.wrap_i64]; omega
    have e1 := le16k (nf.s.length + nf.t.length)
    have e2 := le16 df.length (z := 16) rfl
    generalize decide (nf.s.length + nf.t.length ≤ 16384) = B at e1 ⊢
    generalize decide (df.length ≤ 16) = C at e2 ⊢
    cases C with
    | true =>
      refine w_seq (w_rg ?_)
      refine s_plain (v := q) (σ' := τ2) (by simp only [go_sem, Nat.reduceEqDiff, Nat.reduceAdd, Nat.reduceLeDiff, g0]) ?_
      refine s_plain (v := q) (σ' := τ2) (by simp only [go_sem, Nat.reduceEqDiff, Nat.reduceAdd, Nat.reduceLeDiff, g0]) ?_
      refine s_plain (v := .sc (.int .i64 (df.length : Int))) (σ' := τ2) (by simp only [go_sem, Nat.reduceEqDiff, Nat.reduceAdd, Nat.reduceLeDiff, hlp, hdl]; first | done | rfl) ?_
      refine s_plain (v := .sc (.bool true)) (σ' := τ2) (by simp only [go_sem, Nat.reduceEqDiff, Nat.reduceAdd, Nat.reduceLeDiff, e2]) ?_
      refine s_plain (v := .sc (.bool true)) (σ' := τ2) (by simp only [go_sem, Nat.reduceEqDiff, Nat.reduceAdd, Nat.reduceLeDiff]) ?_
      refine s_guard (g := .sc (.bool true)) (by simp only [go_sem, Nat.reduceEqDiff, Nat.reduceAdd, Nat.reduceLeDiff]) ?_
      refine g_goT (v := .bx 2000010 (σ.c 2000010) 3 0 1) (σ' := τ2) (by simp only [go_sem, Nat.reduceEqDiff, Nat.reduceAdd, Nat.reduceLeDiff, g10]) ?_
      refine s_guard (g := .sc (.bool true)) (by simp only [go_sem, Nat.reduceEqDiff, Nat.reduceAdd, Nat.reduceLeDiff]) ?_
      refine g_goT (v := txt nf.s) (σ' := τ2) (by simp only [go_sem, Nat.reduceEqDiff, Nat.reduceAdd, Nat.reduceLeDiff, mq]) ?_
      refine s_guard (g := .sc (.bool true)) (by simp only [go_sem, Nat.reduceEqDiff, Nat.reduceAdd, Nat.reduceLeDiff]) ?_
      refine g_goT (v := .sc (.int .i64 (nf.s.length : Int))) (σ' := τ2) (by simp only [go_sem, Nat.reduceEqDiff, Nat.reduceAdd, Nat.reduceLeDiff, List.size_toArray]) ?_
      refine s_guard (g := .sc (.bool true)) (by simp only [go_sem, Nat.reduceEqDiff, Nat.reduceAdd, Nat.reduceLeDiff]) ?_
      refine g_goT (v := .bx 2000010 (σ.c 2000010) 3 0 2) (σ' := τ2) (by simp only [go_sem, Nat.reduceEqDiff, Nat.reduceAdd, Nat.reduceLeDiff, g10]) ?_
      refine s_guard (g := .sc (.bool true)) (by simp only [go_sem, Nat.reduceEqDiff, Nat.reduceAdd, Nat.reduceLeDiff]) ?_
      refine g_goT (v := txt nf.t) (σ' := τ2) (by simp only [go_sem, Nat.reduceEqDiff, Nat.reduceAdd, Nat.reduceLeDiff, mq]) ?_
      refine s_guard (g := .sc (.bool true)) (by simp only [go_sem, Nat.reduceEqDiff, Nat.reduceAdd, Nat.reduceLeDiff]) ?_
      refine g_goT (v := .sc (.int .i64 (nf.t.length : Int))) (σ' := τ2) (by simp only [go_sem, Nat.reduceEqDiff, Nat.reduceAdd, Nat.reduceLeDiff, List.size_toArray]) ?_
      refine s_guard (g := .sc (.bool true)) (by simp only [go_sem, Nat.reduceEqDiff, Nat.reduceAdd, Nat.reduceLeDiff]) ?_
      refine g_goT (v := .sc (.int .i64 ((nf.s.length + nf.t.length : Nat) : Int))) (σ' := τ2) (by simp only [go_sem, Nat.reduceEqDiff, Nat.reduceAdd, Nat.reduceLeDiff, w1]) ?_
      refine s_guard (g := .sc (.bool true)) (by simp only [go_sem, Nat.reduceEqDiff, Nat.reduceAdd, Nat.reduceLeDiff]) ?_
      refine g_goT (v := .sc (.bool B)) (σ' := τ2) (by simp only [go_sem, Nat.reduceEqDiff, Nat.reduceAdd, Nat.reduceLeDiff, e1]) ?_
      refine s_plain (v := .sc (.bool B)) (σ' := τ2) (by simp only [go_sem, Nat.reduceEqDiff, Nat.reduceAdd, Nat.reduceLeDiff]) ?_
      refine s_plain (v := q) (σ' := τ2) (by simp only [go_sem, Nat.reduceEqDiff, Nat.reduceAdd, Nat.reduceLeDiff]) ?_
      refine s_plain (v := .sc (.bool B)) (σ' := τ2) (by simp only [go_sem, Nat.reduceEqDiff, Nat.reduceAdd, Nat.reduceLeDiff]) ?_
      refine wo_nil (w_ret ?_)
      exact ⟨.inr rfl, .tu [q, .sc (.bool B)], by simp only [go_sem, Nat.reduceEqDiff, Nat.reduceAdd, Nat.reduceLeDiff, retOf, resOf], ⟨⟨q, rfl, hq⟩, kq⟩⟩
    | false =>
      refine w_seq (w_rg ?_)
      refine s_plain (v := q) (σ' := τ2) (by simp only [go_sem, Nat.reduceEqDiff, Nat.reduceAdd, Nat.reduceLeDiff, g0]) ?_
      refine s_plain (v := q) (σ' := τ2) (by simp only [go_sem, Nat.reduceEqDiff, Nat.reduceAdd, Nat.reduceLeDiff, g0]) ?_
      refine s_plain (v := .sc (.int .i64 (df.length : Int))) (σ' := τ2) (by simp only [go_sem, Nat.reduceEqDiff, Nat.reduceAdd, Nat.reduceLeDiff, hlp, hdl]; first | done | rfl) ?_
      refine s_plain (v := .sc (.bool false)) (σ' := τ2) (by simp only [go_sem, Nat.reduceEqDiff, Nat.reduceAdd, Nat.reduceLeDiff, e2]) ?_
      refine s_plain (v := .sc (.bool false)) (σ' := τ2) (by simp only [go_sem, Nat.reduceEqDiff, Nat.reduceAdd, Nat.reduceLeDiff]) ?_
      iterate 8 (refine s_guard (g := .sc (.bool false)) (by simp only [go_sem, Nat.reduceEqDiff, Nat.reduceAdd, Nat.reduceLeDiff]) ?_; refine g_skT ?_)
      refine s_plain (v := .sc (.bool false)) (σ' := τ2) (by simp only [go_sem, Nat.reduceEqDiff, Nat.reduceAdd, Nat.reduceLeDiff]) ?_
      refine s_plain (v := q) (σ' := τ2) (by simp only [go_sem, Nat.reduceEqDiff, Nat.reduceAdd, Nat.reduceLeDiff]) ?_
      refine s_plain (v := .sc (.bool false)) (σ' := τ2) (by simp only [go_sem, Nat.reduceEqDiff, Nat.reduceAdd, Nat.reduceLeDiff]) ?_
      refine wo_nil (w_ret ?_)
      exact ⟨.inr rfl, .tu [q, .sc (.bool false)], by simp only [go_sem, Nat.reduceEqDiff, Nat.reduceAdd, Nat.reduceLeDiff, retOf, resOf], ⟨⟨q, rfl, hq⟩, kq⟩⟩
theorem a267_3 (J : Has lja env) (D : Has ljd env) (O : Has ljb env) (G : Has ljf env) (G2 : Has ljg env) {l : List Fl} {o : Op9} (hw : RowW σ 3 p (fls l)) (hs : Srt l) (hl : l.length ≤ 900) (hsm : ∀ f ∈ l, f.Sm) (ho : o.Sm) (hF : Fresh σ)
    (hh : hasF l o.n = true) (hk3 : o.k = 3) :
    ∃ q σ', EV env 267 [p, .sc (.int .i64 (posF l o.n : Int)), .sc (.bool (hasF l o.n)), opV o] σ = some (.tu [q, .sc (.bool (roomF l o))], σ') ∧ RowW σ' 3 q (fls (doneF l o)) ∧ Kp (2000000 ≤ ·) σ σ' := by
  have hln := fls_len l
  have hle := posF_le l o.n
  obtain ⟨ok1, ok2⟩ := hw.ok
  have htn := theF_n l o.n
  have hts : (theF l o.n).s.length ≤ 4000000000 ∧ (theF l o.n).t.length ≤ 4000000000 := by
    unfold theF
    cases h : getF l o.n with
    | none => simp
    | some f => exact ⟨(hsm f ((getF_some hs).1 h).1).s, (hsm f ((getF_some hs).1 h).1).t⟩
  suffices h : ∃ r τ, EV env 267 [p, .sc (.int .i64 (posF l o.n : Int)), .sc (.bool (hasF l o.n)), opV o] σ = some (r, τ) ∧ DoneP σ (doneF l o) (roomF l o) r τ by
    obtain ⟨r, τ, h1, ⟨⟨q, rfl, h2⟩, h3⟩⟩ := h
    exact ⟨q, τ, h1, h2, h3⟩
  refine EV_wp' (σ := σ) (R := DoneP σ (doneF l o) (roomF l o)) (G2 (267, d267) (by simp [ljg])) rfl ?_
  unfold opV
  (repeat' first
    | refine w_seq ?_ | refine w_rg ?_ | refine wo_nil ?_ | refine g_skU ?_ | refine g_skT ?_ | refine g_skF ?_
    | ((first | apply s_plain | apply s_void | apply s_guard | apply g_goT | apply g_goF); · simp only [go_sem, Nat.reduceEqDiff, Nat.reduceAdd, Nat.reduceLeDiff, ok1, ok2, List.set_cons_succ]; (first | done | rfl))
    | ((first | apply g_T | apply g_F | apply g_gT | apply g_gF); · intro q1_; (first | intro q2_ | have q2_ := q1_); simp only [go_sem, Nat.reduceEqDiff, Nat.reduceAdd, Nat.reduceLeDiff, ok1, ok2, List.set_cons_succ, q1_, q2_]; (first | done | rfl))
    | fail
    )
  -- the file that is there, or none yet
  refine Wp.mono (Q := fun x fr τ => x = .normal ∧ τ.m 2000007 (σ.c 2000007) = some ⟨3, [.agg [.sc (.int .i64 o.k), txt o.n, txt o.d]], true, true⟩ ∧ τ.m 2000010 (σ.c 2000010) = some ⟨3, [fl (theF l o.n)], true, true⟩ ∧
    RowW τ 3 p (fls l) ∧ Kp (2000000 ≤ ·) σ τ ∧ fr 0 = p ∧ fr 1 = .sc (.int .i64 (posF l o.n : Int)) ∧ fr 7 = .bx 2000007 (σ.c 2000007) 3 0 0 ∧ fr 10 = .bx 2000010 (σ.c 2000010) 3 0 0) ?_ ?_
  · cases hh : hasF l o.n with
    | true =>
      obtain ⟨f0, q1, q2, q3⟩ := pos_at hs hh
      have hlt := (List.getElem?_eq_some_iff.1 q1).1
      have htf : theF l o.n = f0 := by unfold theF; rw [q3]; rfl
      rcases hw with ⟨rfl, hx⟩ | ⟨o1, g1, rfl, h3, h4⟩
      · have h0 : l.length = 0 := by rw [← hln, hx]; rfl
        omega
      · have e1 : (0 : Int) ≤ ((posF l o.n : Nat) : Int) ∧ ((posF l o.n : Nat) : Int) < ((fls l).length : Int) := by rw [hln]; omega
        have hne7 : ¬ (o1 = 2000007) := by omega
        have hne10 : ¬ (o1 = 2000010) := by omega
        have hy := fls_at q1
        unfold fl at hy
        rw [htf]
        (repeat' first
    | refine w_seq ?_ | refine w_rg ?_ | refine wo_nil ?_ | refine g_skU ?_ | refine g_skT ?_ | refine g_skF ?_
    | ((first | apply s_plain | apply s_void | apply s_guard | apply g_goT | apply g_goF); · simp only [go_sem, Nat.reduceEqDiff, Nat.reduceAdd, Nat.reduceLeDiff, e1, Int.toNat_natCast, hne7, hne10, false_and, h3, hy, List.set_cons_succ]; (first | done | rfl))
    | ((first | apply g_T | apply g_F | apply g_gT | apply g_gF); · intro q1_; (first | intro q2_ | have q2_ := q1_); simp only [go_sem, Nat.reduceEqDiff, Nat.reduceAdd, Nat.reduceLeDiff, e1, Int.toNat_natCast, hne7, hne10, false_and, h3, hy, List.set_cons_succ, q1_, q2_]; (first | done | rfl))
    | (apply w_condX; · simp only [go_sem, Nat.reduceEqDiff, Nat.reduceAdd, Nat.reduceLeDiff, e1, Int.toNat_natCast, hne7, hne10, false_and, h3, hy, List.set_cons_succ]; (first | done | rfl)); (first | refine wcd_T ?_ | refine wcd_F ?_)
    | refine w_skip ?_ | refine w_exit ?_ | refine w_ret ?_
    | fail
    )
        refine ⟨rfl, by simp only [go_sem, Nat.reduceEqDiff, Nat.reduceAdd, Nat.reduceLeDiff, List.set_cons_succ], by simp only [go_sem, Nat.reduceEqDiff, Nat.reduceAdd, Nat.reduceLeDiff, List.set_cons_succ, fl], ?_, ?_, by simp only [go_sem, Nat.reduceEqDiff, Nat.reduceAdd, Nat.reduceLeDiff], by simp only [go_sem, Nat.reduceEqDiff, Nat.reduceAdd, Nat.reduceLeDiff], by simp only [go_sem, Nat.reduceEqDiff, Nat.reduceAdd, Nat.reduceLeDiff], by simp only [go_sem, Nat.reduceEqDiff, Nat.reduceAdd, Nat.reduceLeDiff]⟩
        · exact ((((RowW.new (.inr ⟨o1, g1, rfl, h3, h4⟩) hF _ _).new (hF.new _ _) _ _).put (by decide) _).put (by decide) _)
        · exact ((((Kp.refl hF).new _ _).new _ _).put (x := ⟨3, [.agg [.sc (.string ⟨#[]⟩), .sc (.string ⟨#[]⟩), .sc (.string ⟨#[]⟩)]], true, true⟩) (by simp only [go_sem, Nat.reduceEqDiff, Nat.reduceAdd, Nat.reduceLeDiff]) (.inr (Nat.le_refl _)) _).put (x := ⟨3, [.agg [txt o.n, .sc (.string ⟨#[]⟩), .sc (.string ⟨#[]⟩)]], true, true⟩) (by simp only [go_sem, Nat.reduceEqDiff, Nat.reduceAdd, Nat.reduceLeDiff]) (.inr (Nat.le_refl _)) _
    | false =>
      have htf : theF l o.n = ⟨o.n, [], []⟩ := by
        unfold hasF at hh
        unfold theF
        rw [show getF l o.n = none by simpa using hh]; rfl
      rw [htf]
      (repeat' first
    | refine w_seq ?_ | refine w_rg ?_ | refine wo_nil ?_ | refine g_skU ?_ | refine g_skT ?_ | refine g_skF ?_
    | ((first | apply s_plain | apply s_void | apply s_guard | apply g_goT | apply g_goF); · simp only [go_sem, Nat.reduceEqDiff, Nat.reduceAdd, Nat.reduceLeDiff, List.set_cons_succ]; (first | done | rfl))
    | ((first | apply g_T | apply g_F | apply g_gT | apply g_gF); · intro q1_; (first | intro q2_ | have q2_ := q1_); simp only [go_sem, Nat.reduceEqDiff, Nat.reduceAdd, Nat.reduceLeDiff, List.set_cons_succ, q1_, q2_]; (first | done | rfl))
    | (apply w_condX; · simp only [go_sem, Nat.reduceEqDiff, Nat.reduceAdd, Nat.reduceLeDiff, List.set_cons_succ]; (first | done | rfl)); (first | refine wcd_T ?_ | refine wcd_F ?_)
    | refine w_skip ?_ | refine w_exit ?_ | refine w_ret ?_
    | fail
    )
      refine ⟨rfl, by simp only [go_sem, Nat.reduceEqDiff, Nat.reduceAdd, Nat.reduceLeDiff, List.set_cons_succ], by simp only [go_sem, Nat.reduceEqDiff, Nat.reduceAdd, Nat.reduceLeDiff, List.set_cons_succ, fl]; first | done | rfl, ?_, ?_, by simp only [go_sem, Nat.reduceEqDiff, Nat.reduceAdd, Nat.reduceLeDiff], by simp only [go_sem, Nat.reduceEqDiff, Nat.reduceAdd, Nat.reduceLeDiff], by simp only [go_sem, Nat.reduceEqDiff, Nat.reduceAdd, Nat.reduceLeDiff], by simp only [go_sem, Nat.reduceEqDiff, Nat.reduceAdd, Nat.reduceLeDiff]⟩
      · exact ((hw.new hF _ _).new (hF.new _ _) _ _).put (by decide) _
      · exact (((Kp.refl hF).new _ _).new _ _).put (x := ⟨3, [.agg [.sc (.string ⟨#[]⟩), .sc (.string ⟨#[]⟩), .sc (.string ⟨#[]⟩)]], true, true⟩) (by simp only [go_sem, Nat.reduceEqDiff, Nat.reduceAdd, Nat.reduceLeDiff]) (.inr (Nat.le_refl _)) _
  rintro x fr1 τ ⟨rfl, m7, m10, hw1, kp, f0, f1, f7, f10⟩
  try show Wp _ _ _ _ _
  (repeat' first
    | refine w_seq ?_ | refine w_rg ?_ | refine wo_nil ?_ | refine g_skU ?_ | refine g_skT ?_ | refine g_skF ?_
    | ((first | apply s_plain | apply s_void | apply s_guard | apply g_goT | apply g_goF); · simp only [go_sem, Nat.reduceEqDiff, Nat.reduceAdd, Nat.reduceLeDiff, f7, m7]; (first | done | rfl))
    | ((first | apply g_T | apply g_F | apply g_gT | apply g_gF); · intro q1_; (first | intro q2_ | have q2_ := q1_); simp only [go_sem, Nat.reduceEqDiff, Nat.reduceAdd, Nat.reduceLeDiff, f7, m7, q1_, q2_]; (first | done | rfl))
    | fail
    )
  have hlt10 : σ.c 2000010 < τ.c 2000010 := kp.f _ _ (by rw [m10]; rfl)
  refine Wp.mono (Q := SwP σ (doneF l o) (newF l o)) ?_ ?_
  · refine w_block ?_
    (repeat' first
    | refine w_seq ?_ | refine w_rg ?_ | refine wo_nil ?_ | refine g_skU ?_ | refine g_skT ?_ | refine g_skF ?_
    | ((first | apply s_plain | apply s_void | apply s_guard | apply g_goT | apply g_goF); · simp only [go_sem, Nat.reduceEqDiff, Nat.reduceAdd, Nat.reduceLeDiff]; (first | done | rfl))
    | ((first | apply g_T | apply g_F | apply g_gT | apply g_gF); · intro q1_; (first | intro q2_ | have q2_ := q1_); simp only [go_sem, Nat.reduceEqDiff, Nat.reduceAdd, Nat.reduceLeDiff, q1_, q2_]; (first | done | rfl))
    | fail
    )
    refine w_block ?_
    (repeat' first
    | refine w_seq ?_ | refine w_rg ?_ | refine wo_nil ?_ | refine g_skU ?_ | refine g_skT ?_ | refine g_skF ?_
    | ((first | apply s_plain | apply s_void | apply s_guard | apply g_goT | apply g_goF); · simp only [go_sem, Nat.reduceEqDiff, Nat.reduceAdd, Nat.reduceLeDiff]; (first | done | rfl))
    | ((first | apply g_T | apply g_F | apply g_gT | apply g_gF); · intro q1_; (first | intro q2_ | have q2_ := q1_); simp only [go_sem, Nat.reduceEqDiff, Nat.reduceAdd, Nat.reduceLeDiff, q1_, q2_]; (first | done | rfl))
    | fail
    )
    refine w_block ?_
    (repeat' first
    | refine w_seq ?_ | refine w_rg ?_ | refine wo_nil ?_ | refine g_skU ?_ | refine g_skT ?_ | refine g_skF ?_
    | ((first | apply s_plain | apply s_void | apply s_guard | apply g_goT | apply g_goF); · simp only [go_sem, Nat.reduceEqDiff, Nat.reduceAdd, Nat.reduceLeDiff]; (first | done | rfl))
    | ((first | apply g_T | apply g_F | apply g_gT | apply g_gF); · intro q1_; (first | intro q2_ | have q2_ := q1_); simp only [go_sem, Nat.reduceEqDiff, Nat.reduceAdd, Nat.reduceLeDiff, q1_, q2_]; (first | done | rfl))
    | fail
    )
    refine w_block ?_
    (repeat' first
    | refine w_seq ?_ | refine w_rg ?_ | refine wo_nil ?_ | refine g_skU ?_ | refine g_skT ?_ | refine g_skF ?_
    | ((first | apply s_plain | apply s_void | apply s_guard | apply g_goT | apply g_goF); · simp only [go_sem, Nat.reduceEqDiff, Nat.reduceAdd, Nat.reduceLeDiff]; (first | done | rfl))
    | ((first | apply g_T | apply g_F | apply g_gT | apply g_gF); · intro q1_; (first | intro q2_ | have q2_ := q1_); simp only [go_sem, Nat.reduceEqDiff, Nat.reduceAdd, Nat.reduceLeDiff, q1_, q2_]; (first | done | rfl))
    | fail
    )
    refine w_block ?_
    (repeat' first
    | refine w_seq ?_ | refine w_rg ?_ | refine wo_nil ?_ | refine g_skU ?_ | refine g_skT ?_ | refine g_skF ?_
    | ((first | apply s_plain | apply s_void | apply s_guard | apply g_goT | apply g_goF); · simp only [go_sem, Nat.reduceEqDiff, Nat.reduceAdd, Nat.reduceLeDiff]; (first | done | rfl))
    | ((first | apply g_T | apply g_F | apply g_gT | apply g_gF); · intro q1_; (first | intro q2_ | have q2_ := q1_); simp only [go_sem, Nat.reduceEqDiff, Nat.reduceAdd, Nat.reduceLeDiff, q1_, q2_]; (first | done | rfl))
    | fail
    )
    rw [hk3] at m7 ⊢
    obtain ⟨f0', q1, q2, q3⟩ := pos_at hs hh
    have hlt := (List.getElem?_eq_some_iff.1 q1).1
    have hnf : newF l o = ⟨o.d, (theF l o.n).s, (theF l o.n).t⟩ := by unfold newF; rw [if_neg (by omega), if_neg (by omega), if_pos hk3]
    have hdf : doneF l o = putF (delF' l o.n) (newF l o) := by unfold doneF; rw [if_neg (by omega), if_pos hk3]
    rw [hdf, hnf]
    unfold fl at m10
    have d1 : ((3 : Int) == 1) = false := rfl
    have d2 : ((3 : Int) == 2) = false := rfl
    have w1 : IntKind.i64.wrap ((posF l o.n : Int) + 1) = ((posF l o.n + 1 : Nat) : Int) := by rw [IntKind.wrap_i64]; omega
    (repeat' first
    | refine w_seq ?_ | refine w_rg ?_ | refine wo_nil ?_ | refine g_skU ?_ | refine g_skT ?_ | refine g_skF ?_
    | ((first | apply s_plain | apply s_void | apply s_guard | apply g_goT | apply g_goF); · simp only [go_sem, Nat.reduceEqDiff, Nat.reduceAdd, Nat.reduceLeDiff, beq_self_eq_true, d1, d2]; (first | done | rfl))
    | ((first | apply g_T | apply g_F | apply g_gT | apply g_gF); · intro q1_; (first | intro q2_ | have q2_ := q1_); simp only [go_sem, Nat.reduceEqDiff, Nat.reduceAdd, Nat.reduceLeDiff, beq_self_eq_true, d1, d2, q1_, q2_]; (first | done | rfl))
    | (apply w_condX; · simp only [go_sem, Nat.reduceEqDiff, Nat.reduceAdd, Nat.reduceLeDiff, beq_self_eq_true, d1, d2]; (first | done | rfl)); (first | refine wcd_T ?_ | refine wcd_F ?_)
    | refine w_skip ?_ | refine w_exit ?_ | refine w_ret ?_
    | fail
    )
    try simp only [if_true, if_false, Nat.reduceEqDiff, reduceCtorEq]
    try show Wp _ _ _ _ _
    (repeat' first
    | refine w_seq ?_ | refine w_rg ?_ | refine wo_nil ?_ | refine g_skU ?_ | refine g_skT ?_ | refine g_skF ?_
    | ((first | apply s_plain | apply s_void | apply s_guard | apply g_goT | apply g_goF); · simp only [go_sem, Nat.reduceEqDiff, Nat.reduceAdd, Nat.reduceLeDiff, f0, f7, f10, m7, m10, List.size_toArray, List.set_cons_succ]; (first | done | rfl))
    | ((first | apply g_T | apply g_F | apply g_gT | apply g_gF); · intro q1_; (first | intro q2_ | have q2_ := q1_); simp only [go_sem, Nat.reduceEqDiff, Nat.reduceAdd, Nat.reduceLeDiff, f0, f7, f10, m7, m10, List.size_toArray, List.set_cons_succ, q1_, q2_]; (first | done | rfl))
    | (apply w_condX; · simp only [go_sem, Nat.reduceEqDiff, Nat.reduceAdd, Nat.reduceLeDiff, f0, f7, f10, m7, m10, List.size_toArray, List.set_cons_succ]; (first | done | rfl)); (first | refine wcd_T ?_ | refine wcd_F ?_)
    | refine w_skip ?_ | refine w_exit ?_ | refine w_ret ?_
    | fail
    )
    try simp only [if_true, if_false, Nat.reduceEqDiff, reduceCtorEq]
    try show Wp _ _ _ _ _
    (repeat' first
    | refine w_seq ?_ | refine w_rg ?_ | refine wo_nil ?_ | refine g_skU ?_ | refine g_skT ?_ | refine g_skF ?_
    | ((first | apply s_plain | apply s_void | apply s_guard | apply g_goT | apply g_goF); · simp only [go_sem, Nat.reduceEqDiff, Nat.reduceAdd, Nat.reduceLeDiff, f0, f1, w1]; (first | done | rfl))
    | ((first | apply g_T | apply g_F | apply g_gT | apply g_gF); · intro q1_; (first | intro q2_ | have q2_ := q1_); simp only [go_sem, Nat.reduceEqDiff, Nat.reduceAdd, Nat.reduceLeDiff, f0, f1, w1, q1_, q2_]; (first | done | rfl))
    | fail
    )
    have kq := kp.put m10 (.inr (Nat.le_refl _)) (some ⟨3, [.agg [txt o.d, txt (theF l o.n).s, txt (theF l o.n).t]], true, true⟩)
    obtain ⟨q, τ3, h1, h2, h3⟩ := e_del (J (278, .prim (delF 3)) (by simp [lja])) (hw1.put (o := 2000010) (g := σ.c 2000010) (by decide) (some ⟨3, [.agg [txt o.d, txt (theF l o.n).s, txt (theF l o.n).t]], true, true⟩)) (i := posF l o.n) (by rw [hln]; exact hlt) kq.f
    refine s_plain (v := q) (σ' := τ3) (by simp only [go_sem, Nat.reduceEqDiff, Nat.reduceAdd, Nat.reduceLeDiff, f0, f1, w1]; exact h1) ?_
    have k3 := kq.trans h3
    have hlt7 : σ.c 2000007 < τ.c 2000007 := kp.f _ _ (by rw [m7]; rfl)
    have m3 : τ3.m 2000010 (σ.c 2000010) = some ⟨3, [.agg [txt o.d, txt (theF l o.n).s, txt (theF l o.n).t]], true, true⟩ := by
      rw [h3.m 2000010 (σ.c 2000010) (by decide) hlt10]; simp only [go_sem, Nat.reduceEqDiff, Nat.reduceAdd, Nat.reduceLeDiff]
    have m37 : τ3.m 2000007 (σ.c 2000007) = some ⟨3, [.agg [.sc (.int .i64 3), txt o.n, txt o.d]], true, true⟩ := by
      rw [h3.m 2000007 (σ.c 2000007) (by decide) hlt7]; simp only [go_sem, Nat.reduceEqDiff, Nat.reduceAdd, Nat.reduceLeDiff, m7]
    have hdl : (fls l).take (posF l o.n) ++ (fls l).drop (posF l o.n + 1) = fls (delF' l o.n) := by
      unfold delF'
      simp only [fls, List.map_append, List.map_take, List.map_drop]
    rw [hdl] at h2
    have hlt103 : σ.c 2000010 < τ3.c 2000010 := k3.f _ _ (by rw [m3]; rfl)
    cases hnq : (!(o.d == o.n)) with
    | true =>
      (repeat' first
    | refine w_seq ?_ | refine w_rg ?_ | refine wo_nil ?_ | refine g_skU ?_ | refine g_skT ?_ | refine g_skF ?_
    | ((first | apply s_plain | apply s_void | apply s_guard | apply g_goT | apply g_goF); · simp only [go_sem, Nat.reduceEqDiff, Nat.reduceAdd, Nat.reduceLeDiff, f7, f10, m3, m37, hnq]; (first | done | rfl))
    | ((first | apply g_T | apply g_F | apply g_gT | apply g_gF); · intro q1_; (first | intro q2_ | have q2_ := q1_); simp only [go_sem, Nat.reduceEqDiff, Nat.reduceAdd, Nat.reduceLeDiff, f7, f10, m3, m37, hnq, q1_, q2_]; (first | done | rfl))
    | (apply w_condX; · simp only [go_sem, Nat.reduceEqDiff, Nat.reduceAdd, Nat.reduceLeDiff, f7, f10, m3, m37, hnq]; (first | done | rfl)); (first | refine wcd_T ?_ | refine wcd_F ?_)
    | refine w_skip ?_ | refine w_exit ?_ | refine w_ret ?_
    | fail
    )
      obtain ⟨q2, τ4, h4, h5, h6⟩ := a277 J D O G (f := ⟨o.d, (theF l o.n).s, (theF l o.n).t⟩) h2 (delF_srt hs o.n) (by have := @delF_len l o.n; omega) k3.f
      refine s_plain (v := q2) (σ' := τ4) (by simp only [go_sem, Nat.reduceEqDiff, Nat.reduceAdd, Nat.reduceLeDiff]; exact h4) ?_
      have m4 : τ4.m 2000010 (σ.c 2000010) = some ⟨3, [.agg [txt o.d, txt (theF l o.n).s, txt (theF l o.n).t]], true, true⟩ := by
        rw [h6.m 2000010 (σ.c 2000010) (by decide) hlt103]; exact m3
      (repeat' first
    | refine w_seq ?_ | refine w_rg ?_ | refine wo_nil ?_ | refine g_skU ?_ | refine g_skT ?_ | refine g_skF ?_
    | ((first | apply s_plain | apply s_void | apply s_guard | apply g_goT | apply g_goF); · simp only [go_sem, Nat.reduceEqDiff, Nat.reduceAdd, Nat.reduceLeDiff]; (first | done | rfl))
    | ((first | apply g_T | apply g_F | apply g_gT | apply g_gF); · intro q1_; (first | intro q2_ | have q2_ := q1_); simp only [go_sem, Nat.reduceEqDiff, Nat.reduceAdd, Nat.reduceLeDiff, q1_, q2_]; (first | done | rfl))
    | (apply w_condX; · simp only [go_sem, Nat.reduceEqDiff, Nat.reduceAdd, Nat.reduceLeDiff]; (first | done | rfl)); (first | refine wcd_T ?_ | refine wcd_F ?_)
    | refine w_skip ?_ | refine w_exit ?_ | refine w_ret ?_
    | fail
    )
      try simp only [if_true, if_false, Nat.reduceEqDiff, reduceCtorEq]
      exact ⟨rfl, ⟨q2, by simp only [go_sem, Nat.reduceEqDiff, Nat.reduceAdd, Nat.reduceLeDiff], h5⟩, k3.trans h6, m4, by simp only [go_sem, Nat.reduceEqDiff, Nat.reduceAdd, Nat.reduceLeDiff, f10]⟩
    | false =>
      (repeat' first
    | refine w_seq ?_ | refine w_rg ?_ | refine wo_nil ?_ | refine g_skU ?_ | refine g_skT ?_ | refine g_skF ?_
    | ((first | apply s_plain | apply s_void | apply s_guard | apply g_goT | apply g_goF); · simp only [go_sem, Nat.reduceEqDiff, Nat.reduceAdd, Nat.reduceLeDiff, f7, f10, m3, m37, hnq, beq_self_eq_true]; (first | done | rfl))
    | ((first | apply g_T | apply g_F | apply g_gT | apply g_gF); · intro q1_; (first | intro q2_ | have q2_ := q1_); simp only [go_sem, Nat.reduceEqDiff, Nat.reduceAdd, Nat.reduceLeDiff, f7, f10, m3, m37, hnq, beq_self_eq_true, q1_, q2_]; (first | done | rfl))
    | (apply w_condX; · simp only [go_sem, Nat.reduceEqDiff, Nat.reduceAdd, Nat.reduceLeDiff, f7, f10, m3, m37, hnq, beq_self_eq_true]; (first | done | rfl)); (first | refine wcd_T ?_ | refine wcd_F ?_)
    | refine w_skip ?_ | refine w_exit ?_ | refine w_ret ?_
    | fail
    )
      obtain ⟨q2, τ4, h4, h5, h6⟩ := a277 J D O G (f := ⟨o.d, (theF l o.n).s, (theF l o.n).t⟩) h2 (delF_srt hs o.n) (by have := @delF_len l o.n; omega) k3.f
      refine s_plain (v := q2) (σ' := τ4) (by simp only [go_sem, Nat.reduceEqDiff, Nat.reduceAdd, Nat.reduceLeDiff]; exact h4) ?_
      have m4 : τ4.m 2000010 (σ.c 2000010) = some ⟨3, [.agg [txt o.d, txt (theF l o.n).s, txt (theF l o.n).t]], true, true⟩ := by
        rw [h6.m 2000010 (σ.c 2000010) (by decide) hlt103]; exact m3
      (repeat' first
    | refine w_seq ?_ | refine w_rg ?_ | refine wo_nil ?_ | refine g_skU ?_ | refine g_skT ?_ | refine g_skF ?_
    | ((first | apply s_plain | apply s_void | apply s_guard | apply g_goT | apply g_goF); · simp only [go_sem, Nat.reduceEqDiff, Nat.reduceAdd, Nat.reduceLeDiff]; (first | done | rfl))
    | ((first | apply g_T | apply g_F | apply g_gT | apply g_gF); · intro q1_; (first | intro q2_ | have q2_ := q1_); simp only [go_sem, Nat.reduceEqDiff, Nat.reduceAdd, Nat.reduceLeDiff, q1_, q2_]; (first | done | rfl))
    | (apply w_condX; · simp only [go_sem, Nat.reduceEqDiff, Nat.reduceAdd, Nat.reduceLeDiff]; (first | done | rfl)); (first | refine wcd_T ?_ | refine wcd_F ?_)
    | refine w_skip ?_ | refine w_exit ?_ | refine w_ret ?_
    | fail
    )
      try simp only [if_true, if_false, Nat.reduceEqDiff, reduceCtorEq]
      exact ⟨rfl, ⟨q2, by simp only [go_sem, Nat.reduceEqDiff, Nat.reduceAdd, Nat.reduceLeDiff], h5⟩, k3.trans h6, m4, by simp only [go_sem, Nat.reduceEqDiff, Nat.reduceAdd, Nat.reduceLeDiff, f10]⟩
  · rintro x fr2 τ2 ⟨rfl, ⟨q, g0, hq⟩, kq, mq, g10⟩
    try show Wp _ _ _ _ _
    have hlp := hq.lenP
    have hdl := fls_len (doneF l o)
    obtain ⟨ok3, ok4⟩ := hq.ok
    unfold fl at mq
    have hnf1 := newF_le hts.1 hts.2 ho.d
    have hroom : roomF l o = (decide ((doneF l o).length ≤ 16) && decide ((newF l o).s.length + (newF l o).t.length ≤ 16384)) := rfl
    rw [hroom]
    clear hroom hw1 m7 m10 htn hts
    generalize newF l o = nf at mq hnf1 ⊢
    generalize hdd : doneF l o = df at hq hlp hdl ⊢
    have w1 : IntKind.i64.wrap ((nf.s.length : Int) + (nf.t.length : Int)) = ((nf.s.length + nf.t.length : Nat) : Int) := by rw [IntKind.wrap_i64]; omega
    have e1 := le16k (nf.s.length + nf.t.length)
    have e2 := le16 df.length (z := 16) rfl
    generalize decide (nf.s.length + nf.t.length ≤ 16384) = B at e1 ⊢
    generalize decide (df.length ≤ 16) = C at e2 ⊢
    cases C with
    | true =>
      refine w_seq (w_rg ?_)
      refine s_plain (v := q) (σ' := τ2) (by simp only [go_sem, Nat.reduceEqDiff, Nat.reduceAdd, Nat.reduceLeDiff, g0]) ?_
      refine s_plain (v := q) (σ' := τ2) (by simp only [go_sem, Nat.reduceEqDiff, Nat.reduceAdd, Nat.reduceLeDiff, g0]) ?_
      refine s_plain (v := .sc (.int .i64 (df.length : Int))) (σ' := τ2) (by simp only [go_sem, Nat.reduceEqDiff, Nat.reduceAdd, Nat.reduceLeDiff, hlp, hdl]; first | done | rfl) ?_
      refine s_plain (v := .sc (.bool true)) (σ' := τ2) (by simp only [go_sem, Nat.reduceEqDiff, Nat.reduceAdd, Nat.reduceLeDiff, e2]) ?_
      refine s_plain (v := .sc (.bool true)) (σ' := τ2) (by simp only [go_sem, Nat.reduceEqDiff, Nat.reduceAdd, Nat.reduceLeDiff]) ?_
      refine s_guard (g := .sc (.bool true)) (by simp only [go_sem, Nat.reduceEqDiff, Nat.reduceAdd, Nat.reduceLeDiff]) ?_
      refine g_goT (v := .bx 2000010 (σ.c 2000010) 3 0 1) (σ' := τ2) (by simp only [go_sem, Nat.reduceEqDiff, Nat.reduceAdd, Nat.reduceLeDiff, g10]) ?_
      refine s_guard (g := .sc (.bool true)) (by simp only [go_sem, Nat.reduceEqDiff, Nat.reduceAdd, Nat.reduceLeDiff]) ?_
      refine g_goT (v := txt nf.s) (σ' := τ2) (by simp only [go_sem, Nat.reduceEqDiff, Nat.reduceAdd, Nat.reduceLeDiff, mq]) ?_
      refine s_guard (g := .sc (.bool true)) (by simp only [go_sem, Nat.reduceEqDiff, Nat.reduceAdd, Nat.reduceLeDiff]) ?_
      refine g_goT (v := .sc (.int .i64 (nf.s.length : Int))) (σ' := τ2) (by simp only [go_sem, Nat.reduceEqDiff, Nat.reduceAdd, Nat.reduceLeDiff, List.size_toArray]) ?_
      refine s_guard (g := .sc (.bool true)) (by simp only [go_sem, Nat.reduceEqDiff, Nat.reduceAdd, Nat.reduceLeDiff]) ?_
      refine g_goT (v := .bx 2000010 (σ.c 2000010) 3 0 2) (σ' := τ2) (by simp only [go_sem, Nat.reduceEqDiff, Nat.reduceAdd, Nat.reduceLeDiff, g10]) ?_
      refine s_guard (g := .sc (.bool true)) (by simp only [go_sem, Nat.reduceEqDiff, Nat.reduceAdd, Nat.reduceLeDiff]) ?_
      refine g_goT (v := txt nf.t) (σ' := τ2) (by simp only [go_sem, Nat.reduceEqDiff, Nat.reduceAdd, Nat.reduceLeDiff, mq]) ?_
      refine s_guard (g := .sc (.bool true)) (by simp only [go_sem, Nat.reduceEqDiff, Nat.reduceAdd, Nat.reduceLeDiff]) ?_
      refine g_goT (v := .sc (.int .i64 (nf.t.length : Int))) (σ' := τ2) (by simp only [go_sem, Nat.reduceEqDiff, Nat.reduceAdd, Nat.reduceLeDiff, List.size_toArray]) ?_
      refine s_guard (g := .sc (.bool true)) (by simp only [go_sem, Nat.reduceEqDiff, Nat.reduceAdd, Nat.reduceLeDiff]) ?_
      refine g_goT (v := .sc (.int .i64 ((nf.s.length + nf.t.length : Nat) : Int))) (σ' := τ2) (by simp only [go_sem, Nat.reduceEqDiff, Nat.reduceAdd, Nat.reduceLeDiff, w1]) ?_
      refine s_guard (g := .sc (.bool true)) (by simp only [go_sem, Nat.reduceEqDiff, Nat.reduceAdd, Nat.reduceLeDiff]) ?_
      refine g_goT (v := .sc (.bool B)) (σ' := τ2) (by simp only [go_sem, Nat.reduceEqDiff, Nat.reduceAdd, Nat.reduceLeDiff, e1]) ?_
      refine s_plain (v := .sc (.bool B)) (σ' := τ2) (by simp only [go_sem, Nat.reduceEqDiff, Nat.reduceAdd, Nat.reduceLeDiff]) ?_
      refine s_plain (v := q) (σ' := τ2) (by simp only [go_sem, Nat.reduceEqDiff, Nat.reduceAdd, Nat.reduceLeDiff]) ?_
      refine s_plain (v := .sc (.bool B)) (σ' := τ2) (by simp only [go_sem, Nat.reduceEqDiff, Nat.reduceAdd, Nat.reduceLeDiff]) ?_
      refine wo_nil (w_ret ?_)
      exact ⟨.inr rfl, .tu [q, .sc (.bool B)], by simp only [go_sem, Nat.reduceEqDiff, Nat.reduceAdd, Nat.reduceLeDiff, retOf, resOf], ⟨⟨q, rfl, hq⟩, kq⟩⟩
    | false =>
      refine w_seq (w_rg ?_)
      refine s_plain (v := q) (σ' := τ2) (by simp only [go_sem, Nat.reduceEqDiff, Nat.reduceAdd, Nat.reduceLeDiff, g0]) ?_
      refine s_plain (v := q) (σ' := τ2) (by simp only [go_sem, Nat.reduceEqDiff, Nat.reduceAdd, Nat.reduceLeDiff, g0]) ?_
      refine s_plain (v := .sc (.int .i64 (df.length : Int))) (σ' := τ2) (by simp only [go_sem, Nat.reduceEqDiff, Nat.reduceAdd, Nat.reduceLeDiff, hlp, hdl]; first | done | rfl) ?_
      refine s_plain (v := .sc (.bool false)) (σ' := τ2) (by simp only [go_sem, Nat.reduceEqDiff, Nat.reduceAdd, Nat.reduceLeDiff, e2]) ?_
      refine s_plain (v := .sc (.bool false)) (σ' := τ2) (by simp only [go_sem, Nat.reduceEqDiff, Nat.reduceAdd, Nat.reduceLeDiff]) ?_
      iterate 8 (refine s_guard (g := .sc (.bool false)) (by simp only [go_sem, Nat.reduceEqDiff, Nat.reduceAdd, Nat.reduceLeDiff]) ?_; refine g_skT ?_)
      refine s_plain (v := .sc (.bool false)) (σ' := τ2) (by simp only [go_sem, Nat.reduceEqDiff, Nat.reduceAdd, Nat.reduceLeDiff]) ?_
      refine s_plain (v := q) (σ' := τ2) (by simp only [go_sem, Nat.reduceEqDiff, Nat.reduceAdd, Nat.reduceLeDiff]) ?_
      refine s_plain (v := .sc (.bool false)) (σ' := τ2) (by simp only [go_sem, Nat.reduceEqDiff, Nat.reduceAdd, Nat.reduceLeDiff]) ?_
      refine wo_nil (w_ret ?_)
      exact ⟨.inr rfl, .tu [q, .sc (.bool false)], by simp only [go_sem, Nat.reduceEqDiff, Nat.reduceAdd, Nat.reduceLeDiff, retOf, resOf], ⟨⟨q, rfl, hq⟩, kq⟩⟩
theorem a267_4 (J : Has lja env) (D : Has ljd env) (O : Has ljb env) (G : Has ljf env) (G2 : Has ljg env) {l : List Fl} {o : Op9} (hw : RowW σ 3 p (fls l)) (hs : Srt l) (hl : l.length ≤ 900) (hsm : ∀ f ∈ l, f.Sm) (ho : o.Sm) (hF : Fresh σ)
    (hh : hasF l o.n = true) (hk4 : o.k = 4) :
    ∃ q σ', EV env 267 [p, .sc (.int .i64 (posF l o.n : Int)), .sc (.bool (hasF l o.n)), opV o] σ = some (.tu [q, .sc (.bool (roomF l o))], σ') ∧ RowW σ' 3 q (fls (doneF l o)) ∧ Kp (2000000 ≤ ·) σ σ' := by
  have hln := fls_len l
  have hle := posF_le l o.n
  obtain ⟨ok1, ok2⟩ := hw.ok
  have htn := theF_n l o.n
  have hts : (theF l o.n).s.length ≤ 4000000000 ∧ (theF l o.n).t.length ≤ 4000000000 := by
    unfold theF
    cases h : getF l o.n with
    | none => simp
    | some f => exact ⟨(hsm f ((getF_some hs).1 h).1).s, (hsm f ((getF_some hs).1 h).1).t⟩
  suffices h : ∃ r τ, EV env 267 [p, .sc (.int .i64 (posF l o.n : Int)), .sc (.bool (hasF l o.n)), opV o] σ = some (r, τ) ∧ DoneP σ (doneF l o) (roomF l o) r τ by
    obtain ⟨r, τ, h1, ⟨⟨q, rfl, h2⟩, h3⟩⟩ := h
    exact ⟨q, τ, h1, h2, h3⟩
  refine EV_wp' (σ := σ) (R := DoneP σ (doneF l o) (roomF l o)) (G2 (267, d267) (by simp [ljg])) rfl ?_
  unfold opV
  (repeat' first
    | refine w_seq ?_ | refine w_rg ?_ | refine wo_nil ?_ | refine g_skU ?_ | refine g_skT ?_ | refine g_skF ?_
    | ((first | apply s_plain | apply s_void | apply s_guard | apply g_goT | apply g_goF); · simp only [go_sem, Nat.reduceEqDiff, Nat.reduceAdd, Nat.reduceLeDiff, ok1, ok2, List.set_cons_succ]; (first | done | rfl))
    | ((first | apply g_T | apply g_F | apply g_gT | apply g_gF); · intro q1_; (first | intro q2_ | have q2_ := q1_); simp only [go_sem, Nat.reduceEqDiff, Nat.reduceAdd, Nat.reduceLeDiff, ok1, ok2, List.set_cons_succ, q1_, q2_]; (first | done | rfl))
    | fail
    )
  -- the file that is there, or none yet
  refine Wp.mono (Q := fun x fr τ => x = .normal ∧ τ.m 2000007 (σ.c 2000007) = some ⟨3, [.agg [.sc (.int .i64 o.k), txt o.n, txt o.d]], true, true⟩ ∧ τ.m 2000010 (σ.c 2000010) = some ⟨3, [fl (theF l o.n)], true, true⟩ ∧
    RowW τ 3 p (fls l) ∧ Kp (2000000 ≤ ·) σ τ ∧ fr 0 = p ∧ fr 1 = .sc (.int .i64 (posF l o.n : Int)) ∧ fr 7 = .bx 2000007 (σ.c 2000007) 3 0 0 ∧ fr 10 = .bx 2000010 (σ.c 2000010) 3 0 0) ?_ ?_
  · cases hh : hasF l o.n with
    | true =>
      obtain ⟨f0, q1, q2, q3⟩ := pos_at hs hh
      have hlt := (List.getElem?_eq_some_iff.1 q1).1
      have htf : theF l o.n = f0 := by unfold theF; rw [q3]; rfl
      rcases hw with ⟨rfl, hx⟩ | ⟨o1, g1, rfl, h3, h4⟩
      · have h0 : l.length = 0 := by rw [← hln, hx]; rfl
        omega
      · have e1 : (0 : Int) ≤ ((posF l o.n : Nat) : Int) ∧ ((posF l o.n : Nat) : Int) < ((fls l).length : Int) := by rw [hln]; omega
        have hne7 : ¬ (o1 = 2000007) := by omega
        have hne10 : ¬ (o1 = 2000010) := by omega
        have hy := fls_at q1
        unfold fl at hy
        rw [htf]
        (repeat' first
    | refine w_seq ?_ | refine w_rg ?_ | refine wo_nil ?_ | refine g_skU ?_ | refine g_skT ?_ | refine g_skF ?_
    | ((first | apply s_plain | apply s_void | apply s_guard | apply g_goT | apply g_goF); · simp only [go_sem, Nat.reduceEqDiff, Nat.reduceAdd, Nat.reduceLeDiff, e1, Int.toNat_natCast, hne7, hne10, false_and, h3, hy, List.set_cons_succ]; (first | done | rfl))
    | ((first | apply g_T | apply g_F | apply g_gT | apply g_gF); · intro q1_; (first | intro q2_ | have q2_ := q1_); simp only [go_sem, Nat.reduceEqDiff, Nat.reduceAdd, Nat.reduceLeDiff, e1, Int.toNat_natCast, hne7, hne10, false_and, h3, hy, List.set_cons_succ, q1_, q2_]; (first | done | rfl))
    | (apply w_condX; · simp only [go_sem, Nat.reduceEqDiff, Nat.reduceAdd, Nat.reduceLeDiff, e1, Int.toNat_natCast, hne7, hne10, false_and, h3, hy, List.set_cons_succ]; (first | done | rfl)); (first | refine wcd_T ?_ | refine wcd_F ?_)
    | refine w_skip ?_ | refine w_exit ?_ | refine w_ret ?_
    | fail
    )
        refine ⟨rfl, by simp only [go_sem, Nat.reduceEqDiff, Nat.reduceAdd, Nat.reduceLeDiff, List.set_cons_succ], by simp only [go_sem, Nat.reduceEqDiff, Nat.reduceAdd, Nat.reduceLeDiff, List.set_cons_succ, fl], ?_, ?_, by simp only [go_sem, Nat.reduceEqDiff, Nat.reduceAdd, Nat.reduceLeDiff], by simp only [go_sem, Nat.reduceEqDiff, Nat.reduceAdd, Nat.reduceLeDiff], by simp only [go_sem, Nat.reduceEqDiff, Nat.reduceAdd, Nat.reduceLeDiff], by simp only [go_sem, Nat.reduceEqDiff, Nat.reduceAdd, Nat.reduceLeDiff]⟩
        · exact ((((RowW.new (.inr ⟨o1, g1, rfl, h3, h4⟩) hF _ _).new (hF.new _ _) _ _).put (by decide) _).put (by decide) _)
        · exact ((((Kp.refl hF).new _ _).new _ _).put (x := ⟨3, [.agg [.sc (.string ⟨#[]⟩), .sc (.string ⟨#[]⟩), .sc (.string ⟨#[]⟩)]], true, true⟩) (by simp only [go_sem, Nat.reduceEqDiff, Nat.reduceAdd, Nat.reduceLeDiff]) (.inr (Nat.le_refl _)) _).put (x := ⟨3, [.agg [txt o.n, .sc (.string ⟨#[]⟩), .sc (.string ⟨#[]⟩)]], true, true⟩) (by simp only [go_sem, Nat.reduceEqDiff, Nat.reduceAdd, Nat.reduceLeDiff]) (.inr (Nat.le_refl _)) _
    | false =>
      have htf : theF l o.n = ⟨o.n, [], []⟩ := by
        unfold hasF at hh
        unfold theF
        rw [show getF l o.n = none by simpa using hh]; rfl
      rw [htf]
      (repeat' first
    | refine w_seq ?_ | refine w_rg ?_ | refine wo_nil ?_ | refine g_skU ?_ | refine g_skT ?_ | refine g_skF ?_
    | ((first | apply s_plain | apply s_void | apply s_guard | apply g_goT | apply g_goF); · simp only [go_sem, Nat.reduceEqDiff, Nat.reduceAdd, Nat.reduceLeDiff, List.set_cons_succ]; (first | done | rfl))
    | ((first | apply g_T | apply g_F | apply g_gT | apply g_gF); · intro q1_; (first | intro q2_ | have q2_ := q1_); simp only [go_sem, Nat.reduceEqDiff, Nat.reduceAdd, Nat.reduceLeDiff, List.set_cons_succ, q1_, q2_]; (first | done | rfl))
    | (apply w_condX; · simp only [go_sem, Nat.reduceEqDiff, Nat.reduceAdd, Nat.reduceLeDiff, List.set_cons_succ]; (first | done | rfl)); (first | refine wcd_T ?_ | refine wcd_F ?_)
    | refine w_skip ?_ | refine w_exit ?_ | refine w_ret ?_
    | fail
    )
      refine ⟨rfl, by simp only [go_sem, Nat.reduceEqDiff, Nat.reduceAdd, Nat.reduceLeDiff, List.set_cons_succ], by simp only [go_sem, Nat.reduceEqDiff, Nat.reduceAdd, Nat.reduceLeDiff, List.set_cons_succ, fl]; first | done | rfl, ?_, ?_, by simp only [go_sem, Nat.reduceEqDiff, Nat.reduceAdd, Nat.reduceLeDiff], by simp only [go_sem, Nat.reduceEqDiff, Nat.reduceAdd, Nat.reduceLeDiff], by simp only [go_sem, Nat.reduceEqDiff, Nat.reduceAdd, Nat.reduceLeDiff], by simp only [go_sem, Nat.reduceEqDiff, Nat.reduceAdd, Nat.reduceLeDiff]⟩
      · exact ((hw.new hF _ _).new (hF.new _ _) _ _).put (by decide) _
      · exact (((Kp.refl hF).new _ _).new _ _).put (x := ⟨3, [.agg [.sc (.string ⟨#[]⟩), .sc (.string ⟨#[]⟩), .sc (.string ⟨#[]⟩)]], true, true⟩) (by simp only [go_sem, Nat.reduceEqDiff, Nat.reduceAdd, Nat.reduceLeDiff]) (.inr (Nat.le_refl _)) _
  rintro x fr1 τ ⟨rfl, m7, m10, hw1, kp, f0, f1, f7, f10⟩
  try show Wp _ _ _ _ _
  (repeat' first
    | refine w_seq ?_ | refine w_rg ?_ | refine wo_nil ?_ | refine g_skU ?_ | refine g_skT ?_ | refine g_skF ?_
    | ((first | apply s_plain | apply s_void | apply s_guard | apply g_goT | apply g_goF); · simp only [go_sem, Nat.reduceEqDiff, Nat.reduceAdd, Nat.reduceLeDiff, f7, m7]; (first | done | rfl))
    | ((first | apply g_T | apply g_F | apply g_gT | apply g_gF); · intro q1_; (first | intro q2_ | have q2_ := q1_); simp only [go_sem, Nat.reduceEqDiff, Nat.reduceAdd, Nat.reduceLeDiff, f7, m7, q1_, q2_]; (first | done | rfl))
    | fail
    )
  have hlt10 : σ.c 2000010 < τ.c 2000010 := kp.f _ _ (by rw [m10]; rfl)
  refine Wp.mono (Q := SwP σ (doneF l o) (newF l o)) ?_ ?_
  · refine w_block ?_
    (repeat' first
    | refine w_seq ?_ | refine w_rg ?_ | refine wo_nil ?_ | refine g_skU ?_ | refine g_skT ?_ | refine g_skF ?_
    | ((first | apply s_plain | apply s_void | apply s_guard | apply g_goT | apply g_goF); · simp only [go_sem, Nat.reduceEqDiff, Nat.reduceAdd, Nat.reduceLeDiff]; (first | done | rfl))
    | ((first | apply g_T | apply g_F | apply g_gT | apply g_gF); · intro q1_; (first | intro q2_ | have q2_ := q1_); simp only [go_sem, Nat.reduceEqDiff, Nat.reduceAdd, Nat.reduceLeDiff, q1_, q2_]; (first | done | rfl))
    | fail
    )
    refine w_block ?_
    (repeat' first
    | refine w_seq ?_ | refine w_rg ?_ | refine wo_nil ?_ | refine g_skU ?_ | refine g_skT ?_ | refine g_skF ?_
    | ((first | apply s_plain | apply s_void | apply s_guard | apply g_goT | apply g_goF); · simp only [go_sem, Nat.reduceEqDiff, Nat.reduceAdd, Nat.reduceLeDiff]; (first | done | rfl))
    | ((first | apply g_T | apply g_F | apply g_gT | apply g_gF); · intro q1_; (first | intro q2_ | have q2_ := q1_); simp only [go_sem, Nat.reduceEqDiff, Nat.reduceAdd, Nat.reduceLeDiff, q1_, q2_]; (first | done | rfl))
    | fail
    )
    refine w_block ?_
    (repeat' first
    | refine w_seq ?_ | refine w_rg ?_ | refine wo_nil ?_ | refine g_skU ?_ | refine g_skT ?_ | refine g_skF ?_
    | ((first | apply s_plain | apply s_void | apply s_guard | apply g_goT | apply g_goF); · simp only [go_sem, Nat.reduceEqDiff, Nat.reduceAdd, Nat.reduceLeDiff]; (first | done | rfl))
    | ((first | apply g_T | apply g_F | apply g_gT | apply g_gF); · intro q1_; (first | intro q2_ | have q2_ := q1_); simp only [go_sem, Nat.reduceEqDiff, Nat.reduceAdd, Nat.reduceLeDiff, q1_, q2_]; (first | done | rfl))
    | fail
    )
    refine w_block ?_
    (repeat' first
    | refine w_seq ?_ | refine w_rg ?_ | refine wo_nil ?_ | refine g_skU ?_ | refine g_skT ?_ | refine g_skF ?_
    | ((first | apply s_plain | apply s_void | apply s_guard | apply g_goT | apply g_goF); · simp only [go_sem, Nat.reduceEqDiff, Nat.reduceAdd, Nat.reduceLeDiff]; (first | done | rfl))
    | ((first | apply g_T | apply g_F | apply g_gT | apply g_gF); · intro q1_; (first | intro q2_ | have q2_ := q1_); simp only [go_sem, Nat.reduceEqDiff, Nat.reduceAdd, Nat.reduceLeDiff, q1_, q2_]; (first | done | rfl))
    | fail
    )
    refine w_block ?_
    (repeat' first
    | refine w_seq ?_ | refine w_rg ?_ | refine wo_nil ?_ | refine g_skU ?_ | refine g_skT ?_ | refine g_skF ?_
    | ((first | apply s_plain | apply s_void | apply s_guard | apply g_goT | apply g_goF); · simp only [go_sem, Nat.reduceEqDiff, Nat.reduceAdd, Nat.reduceLeDiff]; (first | done | rfl))
    | ((first | apply g_T | apply g_F | apply g_gT | apply g_gF); · intro q1_; (first | intro q2_ | have q2_ := q1_); simp only [go_sem, Nat.reduceEqDiff, Nat.reduceAdd, Nat.reduceLeDiff, q1_, q2_]; (first | done | rfl))
    | fail
    )
    rw [hk4] at m7 ⊢
    obtain ⟨f0', q1, q2, q3⟩ := pos_at hs hh
    have hlt := (List.getElem?_eq_some_iff.1 q1).1
    have hnf : newF l o = theF l o.n := by unfold newF; rw [if_neg (by omega), if_neg (by omega), if_neg (by omega)]
    have hdf : doneF l o = delF' l o.n := by unfold doneF; rw [if_neg (by omega), if_neg (by omega)]
    rw [hdf, hnf]
    unfold fl at m10
    rw [htn] at m10
    have d1 : ((4 : Int) == 1) = false := rfl
    have d2 : ((4 : Int) == 2) = false := rfl
    have d3 : ((4 : Int) == 3) = false := rfl
    have w1 : IntKind.i64.wrap ((posF l o.n : Int) + 1) = ((posF l o.n + 1 : Nat) : Int) := by rw [IntKind.wrap_i64]; omega
    (repeat' first
    | refine w_seq ?_ | refine w_rg ?_ | refine wo_nil ?_ | refine g_skU ?_ | refine g_skT ?_ | refine g_skF ?_
    | ((first | apply s_plain | apply s_void | apply s_guard | apply g_goT | apply g_goF); · simp only [go_sem, Nat.reduceEqDiff, Nat.reduceAdd, Nat.reduceLeDiff, beq_self_eq_true, d1, d2, d3]; (first | done | rfl))
    | ((first | apply g_T | apply g_F | apply g_gT | apply g_gF); · intro q1_; (first | intro q2_ | have q2_ := q1_); simp only [go_sem, Nat.reduceEqDiff, Nat.reduceAdd, Nat.reduceLeDiff, beq_self_eq_true, d1, d2, d3, q1_, q2_]; (first | done | rfl))
    | (apply w_condX; · simp only [go_sem, Nat.reduceEqDiff, Nat.reduceAdd, Nat.reduceLeDiff, beq_self_eq_true, d1, d2, d3]; (first | done | rfl)); (first | refine wcd_T ?_ | refine wcd_F ?_)
    | refine w_skip ?_ | refine w_exit ?_ | refine w_ret ?_
    | fail
    )
    try simp only [if_true, if_false, Nat.reduceEqDiff, reduceCtorEq]
    try show Wp _ _ _ _ _
    (repeat' first
    | refine w_seq ?_ | refine w_rg ?_ | refine wo_nil ?_ | refine g_skU ?_ | refine g_skT ?_ | refine g_skF ?_
    | ((first | apply s_plain | apply s_void | apply s_guard | apply g_goT | apply g_goF); · simp only [go_sem, Nat.reduceEqDiff, Nat.reduceAdd, Nat.reduceLeDiff, f0, f1, w1]; (first | done | rfl))
    | ((first | apply g_T | apply g_F | apply g_gT | apply g_gF); · intro q1_; (first | intro q2_ | have q2_ := q1_); simp only [go_sem, Nat.reduceEqDiff, Nat.reduceAdd, Nat.reduceLeDiff, f0, f1, w1, q1_, q2_]; (first | done | rfl))
    | fail
    )
    obtain ⟨q, τ3, h1, h2, h3⟩ := e_del (J (278, .prim (delF 3)) (by simp [lja])) hw1 (i := posF l o.n) (by rw [hln]; exact hlt) kp.f
    refine s_plain (v := q) (σ' := τ3) (by simp only [go_sem, Nat.reduceEqDiff, Nat.reduceAdd, Nat.reduceLeDiff, f0, f1, w1]; exact h1) ?_
    have k3 := kp.trans h3
    have hlt7 : σ.c 2000007 < τ.c 2000007 := kp.f _ _ (by rw [m7]; rfl)
    have m3 : τ3.m 2000010 (σ.c 2000010) = some ⟨3, [.agg [txt o.n, txt (theF l o.n).s, txt (theF l o.n).t]], true, true⟩ := by
      rw [h3.m 2000010 (σ.c 2000010) (by decide) hlt10]; exact m10
    have m37 : τ3.m 2000007 (σ.c 2000007) = some ⟨3, [.agg [.sc (.int .i64 4), txt o.n, txt o.d]], true, true⟩ := by
      rw [h3.m 2000007 (σ.c 2000007) (by decide) hlt7]; simp only [go_sem, Nat.reduceEqDiff, Nat.reduceAdd, Nat.reduceLeDiff, m7]
    have hdl : (fls l).take (posF l o.n) ++ (fls l).drop (posF l o.n + 1) = fls (delF' l o.n) := by
      unfold delF'
      simp only [fls, List.map_append, List.map_take, List.map_drop]
    rw [hdl] at h2
    have hnq : (!(o.n == o.n)) = false := by simp
    (repeat' first
    | refine w_seq ?_ | refine w_rg ?_ | refine wo_nil ?_ | refine g_skU ?_ | refine g_skT ?_ | refine g_skF ?_
    | ((first | apply s_plain | apply s_void | apply s_guard | apply g_goT | apply g_goF); · simp only [go_sem, Nat.reduceEqDiff, Nat.reduceAdd, Nat.reduceLeDiff, f7, f10, m3, m37, hnq, d3]; (first | done | rfl))
    | ((first | apply g_T | apply g_F | apply g_gT | apply g_gF); · intro q1_; (first | intro q2_ | have q2_ := q1_); simp only [go_sem, Nat.reduceEqDiff, Nat.reduceAdd, Nat.reduceLeDiff, f7, f10, m3, m37, hnq, d3, q1_, q2_]; (first | done | rfl))
    | (apply w_condX; · simp only [go_sem, Nat.reduceEqDiff, Nat.reduceAdd, Nat.reduceLeDiff, f7, f10, m3, m37, hnq, d3]; (first | done | rfl)); (first | refine wcd_T ?_ | refine wcd_F ?_)
    | refine w_skip ?_ | refine w_exit ?_ | refine w_ret ?_
    | fail
    )
    try simp only [if_true, if_false, Nat.reduceEqDiff, reduceCtorEq]
    exact ⟨rfl, ⟨q, by simp only [go_sem, Nat.reduceEqDiff, Nat.reduceAdd, Nat.reduceLeDiff], h2⟩, k3, by unfold fl; rw [htn]; exact m3, by simp only [go_sem, Nat.reduceEqDiff, Nat.reduceAdd, Nat.reduceLeDiff, f10]⟩
  · rintro x fr2 τ2 ⟨rfl, ⟨q, g0, hq⟩, kq, mq, g10⟩
    try show Wp _ _ _ _ _
    have hlp := hq.lenP
    have hdl := fls_len (doneF l o)
    obtain ⟨ok3, ok4⟩ := hq.ok
    unfold fl at mq
    have hnf1 := newF_le hts.1 hts.2 ho.d
    have hroom : roomF l o = (decide ((doneF l o).length ≤ 16) && decide ((newF l o).s.length + (newF l o).t.length ≤ 16384)) := rfl
    rw [hroom]
    clear hroom hw1 m7 m10 htn hts
    generalize newF l o = nf at mq hnf1 ⊢
    generalize hdd : doneF l o = df at hq hlp hdl ⊢
    have w1 : IntKind.i64.wrap ((nf.s.length : Int) + (nf.t.length : Int)) = ((nf.s.length + nf.t.length : Nat) : Int) := by rw [IntKind.wrap_i64]; omega
    have e1 := le16k (nf.s.length + nf.t.length)
    have e2 := le16 df.length (z := 16) rfl
    generalize decide (nf.s.length + nf.t.length ≤ 16384) = B at e1 ⊢
    generalize decide (df.length ≤ 16) = C at e2 ⊢
    cases C with
    | true =>
      refine w_seq (w_rg ?_)
      refine s_plain (v := q) (σ' := τ2) (by simp only [go_sem, Nat.reduceEqDiff, Nat.reduceAdd, Nat.reduceLeDiff, g0]) ?_
      refine s_plain (v := q) (σ' := τ2) (by simp only [go_sem, Nat.reduceEqDiff, Nat.reduceAdd, Nat.reduceLeDiff, g0]) ?_
      refine s_plain (v := .sc (.int .i64 (df.length : Int))) (σ' := τ2) (by simp only [go_sem, Nat.reduceEqDiff, Nat.reduceAdd, Nat.reduceLeDiff, hlp, hdl]; first | done | rfl) ?_
      refine s_plain (v := .sc (.bool true)) (σ' := τ2) (by simp only [go_sem, Nat.reduceEqDiff, Nat.reduceAdd, Nat.reduceLeDiff, e2]) ?_
      refine s_plain (v := .sc (.bool true)) (σ' := τ2) (by simp only [go_sem, Nat.reduceEqDiff, Nat.reduceAdd, Nat.reduceLeDiff]) ?_
      refine s_guard (g := .sc (.bool true)) (by simp only [go_sem, Nat.reduceEqDiff, Nat.reduceAdd, Nat.reduceLeDiff]) ?_
      refine g_goT (v := .bx 2000010 (σ.c 2000010) 3 0 1) (σ' := τ2) (by simp only [go_sem, Nat.reduceEqDiff, Nat.reduceAdd, Nat.reduceLeDiff, g10]) ?_
      refine s_guard (g := .sc (.bool true)) (by simp only [go_sem, Nat.reduceEqDiff, Nat.reduceAdd, Nat.reduceLeDiff]) ?_
      refine g_goT (v := txt nf.s) (σ' := τ2) (by simp only [go_sem, Nat.reduceEqDiff, Nat.reduceAdd, Nat.reduceLeDiff, mq]) ?_
      refine s_guard (g := .sc (.bool true)) (by simp only [go_sem, Nat.reduceEqDiff, Nat.reduceAdd, Nat.reduceLeDiff]) ?_
      refine g_goT (v := .sc (.int .i64 (nf.s.length : Int))) (σ' := τ2) (by simp only [go_sem, Nat.reduceEqDiff, Nat.reduceAdd, Nat.reduceLeDiff, List.size_toArray]) ?_
      refine s_guard (g := .sc (.bool true)) (by simp only [go_sem, Nat.reduceEqDiff, Nat.reduceAdd, Nat.reduceLeDiff]) ?_
      refine g_goT (v := .bx 2000010 (σ.c 2000010) 3 0 2) (σ' := τ2) (by simp only [go_sem, Nat.reduceEqDiff, Nat.reduceAdd, Nat.reduceLeDiff, g10]) ?_
      refine s_guard (g := .sc (.bool true)) (by simp only [go_sem, Nat.reduceEqDiff, Nat.reduceAdd, Nat.reduceLeDiff]) ?_
      refine g_goT (v := txt nf.t) (σ' := τ2) (by simp only [go_sem, Nat.reduceEqDiff, Nat.reduceAdd, Nat.reduceLeDiff, mq]) ?_
      refine s_guard (g := .sc (.bool true)) (by simp only [go_sem, Nat.reduceEqDiff, Nat.reduceAdd, Nat.reduceLeDiff]) ?_
      refine g_goT (v := .sc (.int .i64 (nf.t.length : Int))) (σ' := τ2) (by simp only [go_sem, Nat.reduceEqDiff, Nat.reduceAdd, Nat.reduceLeDiff, List.size_toArray]) ?_
      refine s_guard (g := .sc (.bool true)) (by simp only [go_sem, Nat.reduceEqDiff, Nat.reduceAdd, Nat.reduceLeDiff]) ?_
      refine g_goT (v := .sc (.int .i64 ((nf.s.length + nf.t.length : Nat) : Int))) (σ' := τ2) (by simp only [go_sem, Nat.reduceEqDiff, Nat.reduceAdd, Nat.reduceLeDiff, w1]) ?_
      refine s_guard (g := .sc (.bool true)) (by simp only [go_sem, Nat.reduceEqDiff, Nat.reduceAdd, Nat.reduceLeDiff]) ?_
      refine g_goT (v := .sc (.bool B)) (σ' := τ2) (by simp only [go_sem, Nat.reduceEqDiff, Nat.reduceAdd, Nat.reduceLeDiff, e1]) ?_
      refine s_plain (v := .sc (.bool B)) (σ' := τ2) (by simp only [go_sem, Nat.reduceEqDiff, Nat.reduceAdd, Nat.reduceLeDiff]) ?_
      refine s_plain (v := q) (σ' := τ2) (by simp only [go_sem, Nat.reduceEqDiff, Nat.reduceAdd, Nat.reduceLeDiff]) ?_
      refine s_plain (v := .sc (.bool B)) (σ' := τ2) (by simp only [go_sem, Nat.reduceEqDiff, Nat.reduceAdd, Nat.reduceLeDiff]) ?_
      refine wo_nil (w_ret ?_)
      exact ⟨.inr rfl, .tu [q, .sc (.bool B)], by simp only [go_sem, Nat.reduceEqDiff, Nat.reduceAdd, Nat.reduceLeDiff, retOf, resOf], ⟨⟨q, rfl, hq⟩, kq⟩⟩
    | false =>
      refine w_seq (w_rg ?_)
      refine s_plain (v := q) (σ' := τ2) (by simp only [go_sem, Nat.reduceEqDiff, Nat.reduceAdd, Nat.reduceLeDiff, g0]) ?_
      refine s_plain (v := q) (σ' := τ2) (by simp only [go_sem, Nat.reduceEqDiff, Nat.reduceAdd, Nat.reduceLeDiff, g0]) ?_
      refine s_plain (v := .sc (.int .i64 (df.length : Int))) (σ' := τ2) (by simp only [go_sem, Nat.reduceEqDiff, Nat.reduceAdd, Nat.reduceLeDiff, hlp, hdl]; first | done | rfl) ?_
      refine s_plain (v := .sc (.bool false)) (σ' := τ2) (by simp only [go_sem, Nat.reduceEqDiff, Nat.reduceAdd, Nat.reduceLeDiff, e2]) ?_
      refine s_plain (v := .sc (.bool false)) (σ' := τ2) (by simp only [go_sem, Nat.reduceEqDiff, Nat.reduceAdd, Nat.reduceLeDiff]) ?_
      iterate 8 (refine s_guard (g := .sc (.bool false)) (by simp only [go_sem, Nat.reduceEqDiff, Nat.reduceAdd, Nat.reduceLeDiff]) ?_; refine g_skT ?_)
      refine s_plain (v := .sc (.bool false)) (σ' := τ2) (by simp only [go_sem, Nat.reduceEqDiff, Nat.reduceAdd, Nat.reduceLeDiff]) ?_
      refine s_plain (v := q) (σ' := τ2) (by simp only [go_sem, Nat.reduceEqDiff, Nat.reduceAdd, Nat.reduceLeDiff]) ?_
      refine s_plain (v := .sc (.bool false)) (σ' := τ2) (by simp only [go_sem, Nat.reduceEqDiff, Nat.reduceAdd, Nat.reduceLeDiff]) ?_
      refine wo_nil (w_ret ?_)
      exact ⟨.inr rfl, .tu [q, .sc (.bool false)], by simp only [go_sem, Nat.reduceEqDiff, Nat.reduceAdd, Nat.reduceLeDiff, retOf, resOf], ⟨⟨q, rfl, hq⟩, kq⟩⟩
theorem a267 (J : Has lja env) (D : Has ljd env) (O : Has ljb env) (G : Has ljf env) (G2 : Has ljg env) {l : List Fl} {o : Op9} (hw : RowW σ 3 p (fls l)) (hs : Srt l) (hl : l.length ≤ 900) (hsm : ∀ f ∈ l, f.Sm) (ho : o.Sm) (hF : Fresh σ)
    (hk : o.k = 1 ∨ (hasF l o.n = true ∧ (o.k = 2 ∨ o.k = 3 ∨ o.k = 4))) :
    ∃ q σ', EV env 267 [p, .sc (.int .i64 (posF l o.n : Int)), .sc (.bool (hasF l o.n)), opV o] σ = some (.tu [q, .sc (.bool (roomF l o))], σ') ∧ RowW σ' 3 q (fls (doneF l o)) ∧ Kp (2000000 ≤ ·) σ σ' := by
  rcases hk with hk1 | ⟨hh, hk2 | hk3 | hk4⟩
  · exact a267_1 J D O G G2 hw hs hl hsm ho hF hk1
  · exact a267_2 J D O G G2 hw hs hl hsm ho hF hh hk2
  · exact a267_3 J D O G G2 hw hs hl hsm ho hF hh hk3
  · exact a267_4 J D O G G2 hw hs hl hsm ho hF hh hk4
end

def d255 : Def := (.code 2 [.cell 4 (.some 1), .tmp 5] (.seq (.rg false [⟨.some 2, .none, .box (.t 0)⟩, ⟨.some 3, .none, .box (.t 1)⟩, ⟨.some 4, .none, .box (.c (.agg #[.slice .none 0 0]))⟩, ⟨.some 5, .none, .mv (.c (.int .i64 0))⟩]) (.seq (.seq (.rg false [⟨.some 10, .none, .ld (.some 1) (.t 2)⟩, ⟨.some 11, .none, .call 257 .pure [.t 10]⟩, ⟨.some 12, .none, .un .not (.t 11)⟩, ⟨.some 13, .none, .mv (.t 12)⟩, ⟨.some 14, .some (13, false), .fa 0 (.t 3)⟩, ⟨.some 15, .some (13, false), .ld .none (.t 14)⟩, ⟨.some 16, .some (13, false), .bin .lss (.t 15) (.c (.int .i64 1))⟩, ⟨.some 17, .none, .pick (.t 13) (.c (.bool true)) (.t 16)⟩, ⟨.some 18, .none, .mv (.t 17)⟩, ⟨.some 19, .some (18, false), .fa 0 (.t 3)⟩, ⟨.some 20, .some (18, false), .ld .none (.t 19)⟩, ⟨.some 21, .some (18, false), .bin .gtr (.t 20) (.c (.int .i64 4))⟩, ⟨.some 22, .none, .pick (.t 18) (.c (.bool true)) (.t 21)⟩, ⟨.some 23, .none, .mv (.t 22)⟩, ⟨.some 24, .some (23, false), .fa 1 (.t 3)⟩, ⟨.some 25, .some (23, false), .ld .none (.t 24)⟩, ⟨.some 26, .some (23, false), .call 265 .pure [.t 25]⟩, ⟨.some 27, .some (23, false), .un .not (.t 26)⟩, ⟨.some 28, .none, .pick (.t 23) (.c (.bool true)) (.t 27)⟩, ⟨.some 29, .none, .mv (.t 28)⟩, ⟨.some 30, .some (29, false), .fa 0 (.t 3)⟩, ⟨.some 31, .some (29, false), .ld .none (.t 30)⟩, ⟨.some 32, .some (29, false), .bin .eql (.t 31) (.c (.int .i64 3))⟩, ⟨.some 33, .some (29, false), .mv (.t 32)⟩, ⟨.some 34, .some (33, true), .fa 2 (.t 3)⟩, ⟨.some 35, .some (33, true), .ld .none (.t 34)⟩, ⟨.some 36, .some (33, true), .call 265 .pure [.t 35]⟩, ⟨.some 37, .some (33, true), .un .not (.t 36)⟩, ⟨.some 38, .some (29, false), .pick (.t 33) (.t 37) (.c (.bool false))⟩, ⟨.some 39, .none, .pick (.t 29) (.c (.bool true)) (.t 38)⟩]) (.cond (.t 39) (.seq (.rg false [⟨.some 40, .none, .build (.agg #[.slice .none 0 0]) []⟩, ⟨.none, .none, .st 1 (.t 4) (.t 40)⟩, ⟨.some 5, .none, .mv (.c (.int .i64 1))⟩]) .ret) .skip)) (.seq (.rg false [⟨.some 42, .none, .fa 0 (.t 2)⟩, ⟨.some 43, .none, .ld .none (.t 42)⟩, ⟨.some 44, .none, .fa 1 (.t 3)⟩, ⟨.some 45, .none, .ld .none (.t 44)⟩, ⟨.some 46, .none, .call 266 .pure [.t 43, .t 45]⟩, ⟨.some 41, .none, .mv (.t 46)⟩, ⟨.some 47, .none, .ext (.t 41) 0⟩, ⟨.some 48, .none, .ext (.t 41) 1⟩, ⟨.some 6, .none, .mv (.t 47)⟩, ⟨.some 7, .none, .mv (.t 48)⟩]) (.seq (.seq (.rg false [⟨.some 49, .none, .mv (.t 7)⟩, ⟨.some 50, .none, .un .not (.t 49)⟩, ⟨.some 51, .none, .mv (.t 50)⟩, ⟨.some 52, .some (51, true), .fa 0 (.t 3)⟩, ⟨.some 53, .some (51, true), .ld .none (.t 52)⟩, ⟨.some 54, .some (51, true), .bin .neq (.t 53) (.c (.int .i64 1))⟩, ⟨.some 55, .none, .pick (.t 51) (.t 54) (.c (.bool false))⟩]) (.cond (.t 55) (.seq (.rg false [⟨.some 56, .none, .build (.agg #[.slice .none 0 0]) []⟩, ⟨.none, .none, .st 1 (.t 4) (.t 56)⟩, ⟨.some 5, .none, .mv (.c (.int .i64 9))⟩]) .ret) .skip)) (.seq (.rg true [⟨.some 58, .none, .fa 0 (.t 2)⟩, ⟨.some 59, .none, .ld .none (.t 58)⟩, ⟨.some 61, .none, .mv (.t 6)⟩, ⟨.some 62, .none, .mv (.t 7)⟩, ⟨.some 63, .none, .ld (.some 3) (.t 3)⟩, ⟨.some 60, .none, .icall 268 [.t 59]⟩, ⟨.some 64, .none, .call 267 .opn [.t 60, .t 61, .t 62, .t 63]⟩, ⟨.some 57, .none, .mv (.t 64)⟩, ⟨.some 65, .none, .ext (.t 57) 0⟩, ⟨.some 66, .none, .ext (.t 57) 1⟩, ⟨.some 8, .none, .mv (.t 65)⟩, ⟨.some 9, .none, .mv (.t 66)⟩]) (.seq (.seq (.rg false [⟨.some 67, .none, .mv (.t 9)⟩, ⟨.some 68, .none, .un .not (.t 67)⟩]) (.cond (.t 68) (.seq (.rg false [⟨.some 69, .none, .build (.agg #[.slice .none 0 0]) []⟩, ⟨.none, .none, .st 1 (.t 4) (.t 69)⟩, ⟨.some 5, .none, .mv (.c (.int .i64 13))⟩]) .ret) .skip)) (.seq (.rg false [⟨.some 70, .none, .mv (.t 8)⟩, ⟨.some 71, .none, .build (.agg #[.slice .none 0 0]) [(0, (1, .t 70))]⟩, ⟨.none, .none, .st 1 (.t 4) (.t 71)⟩, ⟨.some 5, .none, .mv (.c (.int .i64 0))⟩]) .ret))))))))
def d259 : Def := (.code 2 [.tmp 4, .tmp 5] (.seq (.rg false [⟨.some 2, .none, .box (.t 0)⟩, ⟨.some 4, .none, .mv (.c (.string ⟨#[]⟩))⟩, ⟨.some 5, .none, .mv (.c (.int .i64 0))⟩]) (.seq (.seq (.rg false [⟨.some 8, .none, .ld (.some 1) (.t 2)⟩, ⟨.some 9, .none, .call 257 .pure [.t 8]⟩, ⟨.some 10, .none, .un .not (.t 9)⟩]) (.cond (.t 10) (.seq (.rg false [⟨.some 4, .none, .mv (.c (.string ⟨#[]⟩))⟩, ⟨.some 5, .none, .mv (.c (.int .i64 1))⟩]) .ret) .skip)) (.seq (.rg false [⟨.some 12, .none, .fa 0 (.t 2)⟩, ⟨.some 13, .none, .ld .none (.t 12)⟩, ⟨.some 14, .none, .mv (.t 1)⟩, ⟨.some 15, .none, .call 266 .pure [.t 13, .t 14]⟩, ⟨.some 11, .none, .mv (.t 15)⟩, ⟨.some 16, .none, .ext (.t 11) 0⟩, ⟨.some 17, .none, .ext (.t 11) 1⟩, ⟨.some 6, .none, .mv (.t 16)⟩, ⟨.some 7, .none, .mv (.t 17)⟩]) (.seq (.seq (.rg false [⟨.some 18, .none, .mv (.t 7)⟩, ⟨.some 19, .none, .un .not (.t 18)⟩]) (.cond (.t 19) (.seq (.rg false [⟨.some 4, .none, .mv (.c (.string ⟨#[]⟩))⟩, ⟨.some 5, .none, .mv (.c (.int .i64 9))⟩]) .ret) .skip)) (.seq (.rg true [⟨.some 20, .none, .fa 0 (.t 2)⟩, ⟨.some 21, .none, .ld .none (.t 20)⟩, ⟨.some 22, .none, .mv (.t 6)⟩, ⟨.some 23, .none, .ia 3 (.t 21) (.t 22)⟩, ⟨.some 24, .none, .fa 1 (.t 23)⟩, ⟨.some 25, .none, .ld .none (.t 24)⟩, ⟨.some 26, .none, .fa 0 (.t 2)⟩, ⟨.some 27, .none, .ld .none (.t 26)⟩, ⟨.some 28, .none, .mv (.t 6)⟩, ⟨.some 29, .none, .ia 3 (.t 27) (.t 28)⟩, ⟨.some 30, .none, .fa 2 (.t 29)⟩, ⟨.some 31, .none, .ld .none (.t 30)⟩, ⟨.some 32, .none, .bin .add (.t 25) (.t 31)⟩, ⟨.some 4, .none, .mv (.t 32)⟩, ⟨.some 5, .none, .mv (.c (.int .i64 0))⟩]) .ret))))))
def ljh : List (Nat × Def) := [(255, d255), (259, d259)]
def badO (l : List Fl) (o : Op9) : Bool := !rightS l || decide (o.k < 1) || decide (o.k > 4) || !wordD o.n || ((o.k == 3) && !wordD o.d)
def doS (l : List Fl) (o : Op9) : List Fl × Int := if badO l o then ([], 1) else if !hasF l o.n && (o.k != 1) then ([], 9) else if roomF l o then (doneF l o, 0) else ([], 13)
section
variable {env : Nat → Option Def} {fr : Fr} {σ σ' σ'' : St} {K : Fr → St → Prop} {Q : X → Fr → St → Prop} {p : PV} {bs : List UInt8}
theorem fls_cl (l : List Fl) : clL (fls l) = true := clL_of fun p hp => by
  simp only [fls, List.mem_map] at hp
  obtain ⟨f, _, rfl⟩ := hp
  rfl
theorem e_clone {s : Nat} (J : Has lja env) {l : List Fl} (hl : l.length ≤ 1000000) (hs : s < 2000000) (hF : Fresh σ) : ∃ q σ', icallE (EV env) s 268 [.sl (fls l)] σ = some (q, σ') ∧ RowW σ' 3 q (fls l) ∧ Kp (2000000 ≤ ·) σ σ' := by
  have hk := J (268, .prim (cloneF 3 48)) (by simp [lja])
  have hall := fls_all l
  have hln := fls_len l
  by_cases h0 : (fls l).isEmpty = true
  · have he : fls l = [] := by simpa using h0
    refine ⟨.em, σ, @icall_em env s 268 [.sl (fls l)] [.sl (fls l)] σ St.nil rfl ?_, .inl ⟨rfl, he⟩, Kp.refl hF⟩
    rw [EV_prim hk]
    simp only [cloneF]
    rw [hall, Bool.true_and, if_pos (by rw [decide_eq_true_eq]; omega), if_pos h0]
  · refine ⟨.ob s (σ.c s) 3 0 (fls l).length, σ.new s ⟨3, fls l, true, true⟩, @icall_ob env s 268 7 0 [.sl (fls l)] [.sl (fls l)] ⟨3, fls l, true, true⟩ σ (St.nil.new 7 ⟨3, fls l, true, true⟩) rfl ?_ (by simp [new_m, nil_c]) rfl rfl (by
      rw [fls_cl]; simp [clL, cl]), .inr ⟨s, σ.c s, rfl, by simp [new_m], hs⟩, (Kp.refl hF).new _ _⟩
    rw [EV_prim hk]
    simp only [cloneF]
    rw [hall, Bool.true_and, if_pos (by rw [decide_eq_true_eq]; omega), if_neg h0]
    rfl
theorem a255 (A : Has law env) (A2 : Has lda env) (B : Has ldb env) (C : Has ldc env) (E : Has ljc env) (F : Has lje env) (J : Has lja env) (D : Has ljd env) (O : Has ljb env) (G : Has ljf env) (G2 : Has ljg env) (H : Has ljh env)
    {l : List Fl} {o : Op9} (hl : l.length ≤ 900) (hsm : ∀ f ∈ l, f.Sm) (ho : o.Sm) : AV env 255 [.agg [.sl (fls l)], opV o] = some (.tu [.agg [.sl (fls (doS l o).1)], .sc (.int .i64 (doS l o).2)]) := by
  have h257 := a257 A A2 B C E F (l := l) (by omega) hsm
  have hn := a265 A A2 B C E (s := o.n) ho.n
  have hd := a265 A A2 B C E (s := o.d) ho.d
  have hfe : ∀ (τ : St) (d : Nat), fz τ (d + 1) .em = some (.sl []) := fun _ _ => rfl
  refine AV_wp (H (255, d255) (by simp [ljh])) rfl ?_
  unfold opV
  cases hb : badO l o with
  | true =>
    have hr : doS l o = ([], 1) := by unfold doS; rw [hb, if_pos rfl]
    rw [hr]
    unfold badO at hb
    (repeat' first
    | refine w_seq ?_ | refine w_rg ?_ | refine wo_nil ?_ | refine g_skU ?_ | refine g_skT ?_ | refine g_skF ?_
    | ((first | apply s_plain | apply s_void | apply s_guard | apply g_goT | apply g_goF); · simp only [go_sem, Nat.reduceEqDiff, Nat.reduceAdd, Nat.reduceLeDiff, h257, hn, hd, hb, List.set_cons_succ]; (first | done | rfl))
    | ((first | apply g_T | apply g_F | apply g_gT | apply g_gF); · intro q1_; (first | intro q2_ | have q2_ := q1_); simp only [go_sem, Nat.reduceEqDiff, Nat.reduceAdd, Nat.reduceLeDiff, h257, hn, hd, hb, List.set_cons_succ, q1_, q2_]; (first | done | rfl))
    | (apply w_condX; · simp only [go_sem, Nat.reduceEqDiff, Nat.reduceAdd, Nat.reduceLeDiff, h257, hn, hd, hb, List.set_cons_succ]; (first | done | rfl)); (first | refine wcd_T ?_ | refine wcd_F ?_)
    | refine w_skip ?_ | refine w_exit ?_ | refine w_ret ?_
    | fail
    )
    exact ⟨by first | exact .inr rfl | exact .inr trivial | exact .inl rfl, by simp only [go_sem, Nat.reduceEqDiff, Nat.reduceAdd, Nat.reduceLeDiff, retOf, resOf, fls, List.map_nil, hfe]; first | done | rfl⟩
  | false =>
    have hb2 := hb
    unfold badO at hb2
    have hR : rightS l = true := by
      cases h : rightS l with
      | true => rfl
      | false => rw [h] at hb2; simp at hb2
    obtain ⟨hs, hf, hl16⟩ := rightS_iff.1 hR
    have h266 := a266 D O hs (by omega) o.n
    (repeat' first
    | refine w_seq ?_ | refine w_rg ?_ | refine wo_nil ?_ | refine g_skU ?_ | refine g_skT ?_ | refine g_skF ?_
    | ((first | apply s_plain | apply s_void | apply s_guard | apply g_goT | apply g_goF); · simp only [go_sem, Nat.reduceEqDiff, Nat.reduceAdd, Nat.reduceLeDiff, h257, hn, hd, hb2, List.set_cons_succ, h266]; (first | done | rfl))
    | ((first | apply g_T | apply g_F | apply g_gT | apply g_gF); · intro q1_; (first | intro q2_ | have q2_ := q1_); simp only [go_sem, Nat.reduceEqDiff, Nat.reduceAdd, Nat.reduceLeDiff, h257, hn, hd, hb2, List.set_cons_succ, h266, q1_, q2_]; (first | done | rfl))
    | (apply w_condX; · simp only [go_sem, Nat.reduceEqDiff, Nat.reduceAdd, Nat.reduceLeDiff, h257, hn, hd, hb2, List.set_cons_succ, h266]; (first | done | rfl)); (first | refine wcd_T ?_ | refine wcd_F ?_)
    | refine w_skip ?_ | refine w_exit ?_ | refine w_ret ?_
    | fail
    )
    cases he : (!hasF l o.n && (o.k != 1)) with
    | true =>
      have hr : doS l o = ([], 9) := by unfold doS; rw [hb, he, if_neg (by decide), if_pos rfl]
      rw [hr]
      (repeat' first
    | refine w_seq ?_ | refine w_rg ?_ | refine wo_nil ?_ | refine g_skU ?_ | refine g_skT ?_ | refine g_skF ?_
    | ((first | apply s_plain | apply s_void | apply s_guard | apply g_goT | apply g_goF); · simp only [go_sem, Nat.reduceEqDiff, Nat.reduceAdd, Nat.reduceLeDiff, he, List.set_cons_succ]; (first | done | rfl))
    | ((first | apply g_T | apply g_F | apply g_gT | apply g_gF); · intro q1_; (first | intro q2_ | have q2_ := q1_); simp only [go_sem, Nat.reduceEqDiff, Nat.reduceAdd, Nat.reduceLeDiff, he, List.set_cons_succ, q1_, q2_]; (first | done | rfl))
    | (apply w_condX; · simp only [go_sem, Nat.reduceEqDiff, Nat.reduceAdd, Nat.reduceLeDiff, he, List.set_cons_succ]; (first | done | rfl)); (first | refine wcd_T ?_ | refine wcd_F ?_)
    | refine w_skip ?_ | refine w_exit ?_ | refine w_ret ?_
    | fail
    )
      exact ⟨by first | exact .inr rfl | exact .inr trivial | exact .inl rfl, by simp only [go_sem, Nat.reduceEqDiff, Nat.reduceAdd, Nat.reduceLeDiff, retOf, resOf, fls, List.map_nil, hfe]; first | done | rfl⟩
    | false =>
      have hk : o.k = 1 ∨ (hasF l o.n = true ∧ (o.k = 2 ∨ o.k = 3 ∨ o.k = 4)) := by
        simp only [Bool.or_eq_false_iff, decide_eq_false_iff_not] at hb2
        by_cases h1 : o.k = 1
        · exact .inl h1
        · refine .inr ⟨?_, by omega⟩
          cases h : hasF l o.n with
          | true => rfl
          | false => rw [h] at he; simp at he; exact absurd he h1
      (repeat' first
    | refine w_seq ?_ | refine w_rg ?_ | refine wo_nil ?_ | refine g_skU ?_ | refine g_skT ?_ | refine g_skF ?_
    | ((first | apply s_plain | apply s_void | apply s_guard | apply g_goT | apply g_goF); · simp only [go_sem, Nat.reduceEqDiff, Nat.reduceAdd, Nat.reduceLeDiff, he, List.set_cons_succ]; (first | done | rfl))
    | ((first | apply g_T | apply g_F | apply g_gT | apply g_gF); · intro q1_; (first | intro q2_ | have q2_ := q1_); simp only [go_sem, Nat.reduceEqDiff, Nat.reduceAdd, Nat.reduceLeDiff, he, List.set_cons_succ, q1_, q2_]; (first | done | rfl))
    | (apply w_condX; · simp only [go_sem, Nat.reduceEqDiff, Nat.reduceAdd, Nat.reduceLeDiff, he, List.set_cons_succ]; (first | done | rfl)); (first | refine wcd_T ?_ | refine wcd_F ?_)
    | refine w_skip ?_ | refine w_exit ?_ | refine w_ret ?_
    | fail
    )
      have k0 := ((Kp.refl (P := (2000000 ≤ ·)) Fresh.nil).new 2000002 ⟨1, [.agg [.sl (fls l)]], true, true⟩).new 2000003 ⟨3, [.agg [.sc (.int .i64 o.k), txt o.n, txt o.d]], true, true⟩
      have k1 := k0.new 2000004 ⟨1, [.agg [.em]], true, true⟩
      obtain ⟨q, σ1, h1, h2, h3⟩ := e_clone (s := 60) J (l := l) (by omega) (by decide) k1.f
      refine s_plain (v := q) (σ' := σ1) (by simp only [go_sem, Nat.reduceEqDiff, Nat.reduceAdd, Nat.reduceLeDiff]; exact h1) ?_
      obtain ⟨q2, σ2, h4, h5, h6⟩ := a267 J D O G G2 h2 hs hl hsm ho h3.f hk
      unfold opV at h4
      refine s_plain (v := .tu [q2, .sc (.bool (roomF l o))]) (σ' := σ2) (by simp only [go_sem, Nat.reduceEqDiff, Nat.reduceAdd, Nat.reduceLeDiff]; exact h4) ?_
      have k4 := k1.trans (h3.trans h6)
      have hm4 : σ2.m 2000004 0 = some ⟨1, [.agg [.em]], true, true⟩ := by
        have hlt : 0 < σ1.c 2000004 := Nat.lt_of_lt_of_le (show 0 < (((St.nil.new 2000002 ⟨1, [.agg [.sl (fls l)]], true, true⟩).new 2000003 ⟨3, [.agg [.sc (.int .i64 o.k), txt o.n, txt o.d]], true, true⟩).new 2000004 ⟨1, [.agg [.em]], true, true⟩).c 2000004 by simp [new_c, nil_c]) (h3.c _)
        rw [h6.m 2000004 0 (by decide) hlt, h3.m 2000004 0 (by decide) (by simp [new_c, nil_c])]
        simp only [go_sem, Nat.reduceEqDiff, Nat.reduceAdd, Nat.reduceLeDiff]
      obtain ⟨ok1, ok2⟩ := h5.ok
      cases hr : roomF l o with
      | true =>
        have hd2 : doS l o = (doneF l o, 0) := by unfold doS; rw [hb, he, if_neg (by decide), if_neg (by decide), hr, if_pos rfl]
        rw [hd2]
        have hfz : ∀ y, fz (σ2.put 2000004 0 y) 10 q2 = some (.sl (fls (doneF l o))) := fun y => (h5.put (by decide) y).fz (fls_fz _ 7 _)
        (repeat' first
    | refine w_seq ?_ | refine w_rg ?_ | refine wo_nil ?_ | refine g_skU ?_ | refine g_skT ?_ | refine g_skF ?_
    | ((first | apply s_plain | apply s_void | apply s_guard | apply g_goT | apply g_goF); · simp only [go_sem, Nat.reduceEqDiff, Nat.reduceAdd, Nat.reduceLeDiff, hm4, ok1, ok2]; (first | done | rfl))
    | ((first | apply g_T | apply g_F | apply g_gT | apply g_gF); · intro q1_; (first | intro q2_ | have q2_ := q1_); simp only [go_sem, Nat.reduceEqDiff, Nat.reduceAdd, Nat.reduceLeDiff, hm4, ok1, ok2, q1_, q2_]; (first | done | rfl))
    | (apply w_condX; · simp only [go_sem, Nat.reduceEqDiff, Nat.reduceAdd, Nat.reduceLeDiff, hm4, ok1, ok2]; (first | done | rfl)); (first | refine wcd_T ?_ | refine wcd_F ?_)
    | refine w_skip ?_ | refine w_exit ?_ | refine w_ret ?_
    | fail
    )
        exact ⟨by first | exact .inr rfl | exact .inr trivial | exact .inl rfl, by simp only [go_sem, Nat.reduceEqDiff, Nat.reduceAdd, Nat.reduceLeDiff, retOf, resOf, hm4, ok1, ok2, hfz]; first | done | rfl⟩
      | false =>
        have hd2 : doS l o = ([], 13) := by unfold doS; rw [hb, he, if_neg (by decide), if_neg (by decide), hr, if_neg (by decide)]
        rw [hd2]
        (repeat' first
    | refine w_seq ?_ | refine w_rg ?_ | refine wo_nil ?_ | refine g_skU ?_ | refine g_skT ?_ | refine g_skF ?_
    | ((first | apply s_plain | apply s_void | apply s_guard | apply g_goT | apply g_goF); · simp only [go_sem, Nat.reduceEqDiff, Nat.reduceAdd, Nat.reduceLeDiff, hm4, ok1, ok2]; (first | done | rfl))
    | ((first | apply g_T | apply g_F | apply g_gT | apply g_gF); · intro q1_; (first | intro q2_ | have q2_ := q1_); simp only [go_sem, Nat.reduceEqDiff, Nat.reduceAdd, Nat.reduceLeDiff, hm4, ok1, ok2, q1_, q2_]; (first | done | rfl))
    | (apply w_condX; · simp only [go_sem, Nat.reduceEqDiff, Nat.reduceAdd, Nat.reduceLeDiff, hm4, ok1, ok2]; (first | done | rfl)); (first | refine wcd_T ?_ | refine wcd_F ?_)
    | refine w_skip ?_ | refine w_exit ?_ | refine w_ret ?_
    | fail
    )
        exact ⟨by first | exact .inr rfl | exact .inr trivial | exact .inl rfl, by simp only [go_sem, Nat.reduceEqDiff, Nat.reduceAdd, Nat.reduceLeDiff, retOf, resOf, hm4, fls, List.map_nil, hfe]; first | done | rfl⟩
end

def tch (o : Op9) (n : List UInt8) : Bool := decide (n = o.n) || ((o.k == 3) && decide (n = o.d))
def valO (o : Op9) (f : Fl) (n : List UInt8) : Option Fl := if o.k = 3 then (if n = o.d then some f else none) else if o.k = 4 then none else some f
def canO (l : List Fl) (o : Op9) : Prop := o.k = 1 ∨ (hasF l o.n = true ∧ (o.k = 2 ∨ o.k = 3 ∨ o.k = 4))
theorem newF_n {l : List Fl} {o : Op9} : (newF l o).n = if o.k = 3 then o.d else o.n := by
  have h := theF_n l o.n
  unfold newF
  by_cases k1 : o.k = 1
  · rw [if_pos k1, if_neg (by omega)]; exact h
  · rw [if_neg k1]
    by_cases k2 : o.k = 2
    · rw [if_pos k2, if_neg (by omega)]; exact h
    · rw [if_neg k2]
      by_cases k3 : o.k = 3
      · rw [if_pos k3, if_pos k3]
      · rw [if_neg k3, if_neg k3]; exact h
theorem doneF_srt {l : List Fl} (hs : Srt l) (o : Op9) : Srt (doneF l o) := by
  unfold doneF
  split
  · exact putF_srt hs _
  · split
    · exact putF_srt (delF_srt hs _) _
    · exact delF_srt hs _
theorem doneF_get {l : List Fl} (hs : Srt l) {o : Op9} (hc : canO l o) (n : List UInt8) : getF (doneF l o) n = if tch o n then valO o (newF l o) n else getF l n := by
  have hn := @newF_n l o
  unfold tch valO
  rcases hc with h1 | ⟨hh, h2 | h3 | h4⟩
  · have e : (o.k == 3) = false := by simp [h1]
    rw [e, Bool.false_and, Bool.or_false, if_neg (show ¬ o.k = 3 by omega)]
    rw [if_neg (show ¬ o.k = 3 by omega)] at hn
    unfold doneF
    rw [if_pos (.inl h1), putF_get hs, hn, if_neg (show ¬ o.k = 4 by omega)]
    simp only [decide_eq_true_eq]
  · have e : (o.k == 3) = false := by simp [h2]
    rw [e, Bool.false_and, Bool.or_false, if_neg (show ¬ o.k = 3 by omega)]
    rw [if_neg (show ¬ o.k = 3 by omega)] at hn
    unfold doneF
    rw [if_pos (.inr h2), putF_get hs, hn, if_neg (show ¬ o.k = 4 by omega)]
    simp only [decide_eq_true_eq]
  · have e : (o.k == 3) = true := by simp [h3]
    rw [e, Bool.true_and, if_pos h3]
    rw [if_pos h3] at hn
    unfold doneF
    rw [if_neg (by omega), if_pos h3, putF_get (delF_srt hs _), hn, delF_get hs hh]
    by_cases q1 : n = o.d
    · rw [if_pos q1, if_pos q1]; simp [q1]
    · rw [if_neg q1, if_neg q1]
      simp [q1]
  · have e : (o.k == 3) = false := by simp [h4]
    rw [e, Bool.false_and, Bool.or_false, if_neg (show ¬ o.k = 3 by omega), if_pos h4]
    unfold doneF
    rw [if_neg (by omega), if_neg (by omega), delF_get hs hh]
    simp only [decide_eq_true_eq]
theorem can_of {l : List Fl} {o : Op9} {x : List Fl} (h : doS l o = (x, 0)) : badO l o = false ∧ canO l o ∧ roomF l o = true ∧ x = doneF l o := by
  unfold doS at h
  cases hb : badO l o with
  | true => rw [hb, if_pos rfl] at h; simp at h
  | false =>
    rw [hb, if_neg (by decide)] at h
    cases he : (!hasF l o.n && (o.k != 1)) with
    | true => rw [he, if_pos rfl] at h; simp at h
    | false =>
      rw [he, if_neg (by decide)] at h
      cases hr : roomF l o with
      | false => rw [hr, if_neg (by decide)] at h; simp at h
      | true =>
        rw [hr, if_pos rfl] at h
        simp only [Prod.mk.injEq, and_true] at h
        refine ⟨rfl, ?_, rfl, h.symm⟩
        have hb2 := hb
        unfold badO at hb2
        simp only [Bool.or_eq_false_iff, decide_eq_false_iff_not] at hb2
        by_cases h1 : o.k = 1
        · exact .inl h1
        · refine .inr ⟨?_, by omega⟩
          cases hh : hasF l o.n with
          | true => rfl
          | false => rw [hh] at he; simp at he; exact absurd he h1
theorem bad_spec {l : List Fl} {o : Op9} (h : badO l o = false) : rightS l = true ∧ 1 ≤ o.k ∧ o.k ≤ 4 ∧ wordD o.n = true ∧ (o.k = 3 → wordD o.d = true) := by
  unfold badO at h
  simp only [Bool.or_eq_false_iff, decide_eq_false_iff_not, Bool.not_eq_false'] at h
  obtain ⟨⟨⟨⟨h1, h2⟩, h3⟩, h4⟩, h5⟩ := h
  refine ⟨h1, by omega, by omega, h4, fun hk => ?_⟩
  rw [hk] at h5
  simpa using h5
theorem done_right {l : List Fl} {o : Op9} (hb : badO l o = false) (hc : canO l o) (hr : roomF l o = true) : rightS (doneF l o) = true := by
  obtain ⟨hR, h1, h4, hw, hwd⟩ := bad_spec hb
  obtain ⟨hs, hf, hl⟩ := rightS_iff.1 hR
  unfold roomF at hr
  simp only [Bool.and_eq_true, decide_eq_true_eq] at hr
  refine rightS_iff.2 ⟨doneF_srt hs o, fun f hfm => ?_, hr.1⟩
  have hg := (getF_some (doneF_srt hs o)).2 ⟨hfm, rfl⟩
  rw [doneF_get hs hc] at hg
  split at hg
  · have : f = newF l o := by
      unfold valO at hg
      split at hg
      · split at hg
        · simpa using hg.symm
        · cases hg
      · split at hg
        · cases hg
        · simpa using hg.symm
    rw [this]
    refine ⟨?_, hr.2⟩
    rw [newF_n]
    by_cases h3 : o.k = 3
    · rw [if_pos h3]; exact hwd h3
    · rw [if_neg h3]; exact hw
  · exact hf f ((getF_some hs).1 hg).1
def apart9 (a b : Op9) : Bool := !(tch a b.n || ((b.k == 3) && tch a b.d))
theorem apart_tch {a b : Op9} (h : apart9 a b = true) {n : List UInt8} (hb : tch b n = true) : tch a n = false := by
  unfold apart9 at h
  simp only [Bool.not_eq_true', Bool.or_eq_false_iff] at h
  unfold tch at hb
  simp only [Bool.or_eq_true, Bool.and_eq_true, decide_eq_true_eq] at hb
  rcases hb with rfl | ⟨h3, rfl⟩
  · exact h.1
  · have := h.2
    rw [h3, Bool.true_and] at this
    exact this
theorem tch_self (o : Op9) : tch o o.n = true := by unfold tch; simp
theorem has_done {l : List Fl} (hs : Srt l) {a b : Op9} (hc : canO l a) (h : tch a b.n = false) : getF (doneF l a) b.n = getF l b.n := by
  rw [doneF_get hs hc, h, if_neg (by decide)]
theorem do_next {l x : List Fl} {a b : Op9} (ha : doS l a = (x, 0)) {y : List Fl} (hb : doS l b = (y, 0)) (hap : tch a b.n = false) : ∃ r g, doS x b = (r, g) ∧ (g = 13 ∨ (g = 0 ∧ r = doneF x b ∧ canO x b ∧ Srt x ∧ newF x b = newF l b)) := by
  obtain ⟨a1, a2, a3, rfl⟩ := can_of ha
  obtain ⟨b1, b2, b3, rfl⟩ := can_of hb
  have hR := (bad_spec a1).1
  obtain ⟨hs, _, _⟩ := rightS_iff.1 hR
  have hx := done_right a1 a2 a3
  have hg := has_done hs a2 hap
  have hhas : hasF (doneF l a) b.n = hasF l b.n := by unfold hasF; rw [hg]
  have hbad : badO (doneF l a) b = false := by
    unfold badO at b1 ⊢
    rw [hx]
    rw [hR] at b1
    exact b1
  have hcan : canO (doneF l a) b := by
    unfold canO at b2 ⊢
    rw [hhas]; exact b2
  have he : (!hasF (doneF l a) b.n && (b.k != 1)) = false := by
    rcases b2 with h | ⟨h, _⟩
    · simp [h]
    · rw [hhas, h]; rfl
  have hnew : newF (doneF l a) b = newF l b := by
    have : theF (doneF l a) b.n = theF l b.n := by unfold theF; rw [hg]
    unfold newF
    rw [this]
  unfold doS
  rw [hbad, if_neg (by decide), he, if_neg (by decide)]
  cases hr : roomF (doneF l a) b with
  | true => exact ⟨_, _, if_pos rfl, .inr ⟨rfl, rfl, hcan, doneF_srt hs a, hnew⟩⟩
  | false => exact ⟨_, _, if_neg (by decide), .inl rfl⟩
theorem do_turns {l x y r q : List Fl} {a b : Op9} {g h : Int} (ha : doS l a = (x, 0)) (hb : doS l b = (y, 0)) (hap : apart9 a b = true) (h1 : doS x b = (r, g)) (h2 : doS y a = (q, h)) (hg : g ≠ 13) (hh : h ≠ 13) : g = 0 ∧ h = 0 ∧ r = q := by
  have t1 : tch a b.n = false := apart_tch hap (tch_self b)
  have t2 : tch b a.n = false := by
    cases ht : tch b a.n with
    | false => rfl
    | true => have := apart_tch hap ht; rw [tch_self] at this; cases this
  obtain ⟨r', g', e1, e2⟩ := do_next ha hb t1
  obtain ⟨q', h', e3, e4⟩ := do_next hb ha t2
  rw [h1] at e1
  rw [h2] at e3
  simp only [Prod.mk.injEq] at e1 e3
  obtain ⟨rfl, rfl⟩ := e1
  obtain ⟨rfl, rfl⟩ := e3
  rcases e2 with e2 | ⟨rfl, e5, e6, e7, e8⟩
  · exact absurd e2 hg
  rcases e4 with e4 | ⟨rfl, f5, f6, f7, f8⟩
  · exact absurd e4 hh
  refine ⟨rfl, rfl, ?_⟩
  obtain ⟨a1, a2, a3, rfl⟩ := can_of ha
  obtain ⟨b1, b2, b3, rfl⟩ := can_of hb
  obtain ⟨hs, _, _⟩ := rightS_iff.1 (bad_spec a1).1
  rw [e5, f5]
  refine srt_ext (doneF_srt e7 b) (doneF_srt f7 a) fun n => ?_
  rw [doneF_get e7 e6, doneF_get f7 f6, e8, f8, doneF_get hs a2, doneF_get hs b2]
  cases hb' : tch b n with
  | true => rw [apart_tch hap hb']; rfl
  | false => rfl

def d252 : Def := (.code 1 [.cell 2 (.some 1)] (.seq (.rg false [⟨.some 1, .none, .box (.t 0)⟩, ⟨.some 2, .none, .box (.c (.agg #[.slice .none 0 0]))⟩]) (.seq (.rg false [⟨.some 3, .none, .box (.c (.agg #[.slice .none 0 0]))⟩]) (.seq (.seq (.rg false [⟨.some 6, .none, .fa 0 (.t 1)⟩, ⟨.some 7, .none, .ld .none (.t 6)⟩, ⟨.some 8, .none, .fa 0 (.t 1)⟩, ⟨.some 9, .none, .ld .none (.t 8)⟩, ⟨.some 10, .none, .lenL (.t 9)⟩, ⟨.some 11, .none, .mnmx false [.t 10, .c (.int .i64 18)]⟩, ⟨.some 12, .none, .slcL 3 (.t 7) .none (.some (.t 11))⟩, ⟨.some 13, .none, .lenL (.t 12)⟩, ⟨.some 14, .none, .mv (.c (.int .i64 0))⟩]) (.block 0 (.loop (.seq (.rg false [⟨.some 15, .none, .bin .lss (.t 14) (.t 13)⟩]) (.seq (.cond (.t 15) .skip (.exit 0)) (.seq (.block 1 (.seq (.rg false [⟨.some 16, .none, .ia 3 (.t 12) (.t 14)⟩, ⟨.some 17, .none, .ld (.some 3) (.t 16)⟩, ⟨.some 5, .none, .box (.c (.agg #[.string ⟨#[]⟩, .string ⟨#[]⟩, .string ⟨#[]⟩]))⟩, ⟨.none, .none, .st 3 (.t 5) (.t 17)⟩]) (.rg true [⟨.some 18, .none, .fa 0 (.t 3)⟩, ⟨.some 19, .none, .ld .none (.t 18)⟩, ⟨.some 20, .none, .fa 0 (.t 5)⟩, ⟨.some 21, .none, .ld .none (.t 20)⟩, ⟨.some 22, .none, .fa 0 (.t 5)⟩, ⟨.some 23, .none, .ld .none (.t 22)⟩, ⟨.some 24, .none, .lenS (.t 23)⟩, ⟨.some 25, .none, .mnmx false [.t 24, .c (.int .i64 70)]⟩, ⟨.some 26, .none, .slcS (.t 21) .none (.some (.t 25))⟩, ⟨.some 27, .none, .fa 1 (.t 5)⟩, ⟨.some 28, .none, .ld .none (.t 27)⟩, ⟨.some 29, .none, .fa 1 (.t 5)⟩, ⟨.some 30, .none, .ld .none (.t 29)⟩, ⟨.some 31, .none, .lenS (.t 30)⟩, ⟨.some 32, .none, .mnmx false [.t 31, .c (.int .i64 17000)]⟩, ⟨.some 33, .none, .slcS (.t 28) .none (.some (.t 32))⟩, ⟨.some 34, .none, .fa 2 (.t 5)⟩, ⟨.some 35, .none, .ld .none (.t 34)⟩, ⟨.some 36, .none, .fa 2 (.t 5)⟩, ⟨.some 37, .none, .ld .none (.t 36)⟩, ⟨.some 38, .none, .lenS (.t 37)⟩, ⟨.some 39, .none, .mnmx false [.t 38, .c (.int .i64 17000)]⟩, ⟨.some 40, .none, .slcS (.t 35) .none (.some (.t 39))⟩, ⟨.some 41, .none, .build (.agg #[.string ⟨#[]⟩, .string ⟨#[]⟩, .string ⟨#[]⟩]) [(0, (1, .t 26)), (1, (1, .t 33)), (2, (1, .t 40))]⟩, ⟨.some 42, .none, .bsl 3 (.agg #[.string ⟨#[]⟩, .string ⟨#[]⟩, .string ⟨#[]⟩]) 1 [(0, .t 41)]⟩, ⟨.some 43, .none, .app 3 48 false (.t 19) (.t 42)⟩, ⟨.some 44, .none, .fa 0 (.t 3)⟩, ⟨.none, .none, .st 1 (.t 44) (.t 43)⟩]))) (.rg false [⟨.some 45, .none, .bin .add (.t 14) (.c (.int .i64 1))⟩, ⟨.some 14, .none, .mv (.t 45)⟩]))))))) (.seq (.rg false [⟨.some 46, .none, .ld (.some 1) (.t 3)⟩, ⟨.none, .none, .st 1 (.t 2) (.t 46)⟩]) .ret)))))
def d253 : Def := (.code 1 [.cell 2 (.some 3)] (.seq (.rg false [⟨.some 1, .none, .box (.t 0)⟩, ⟨.some 2, .none, .box (.c (.agg #[.int .i64 0, .string ⟨#[]⟩, .string ⟨#[]⟩]))⟩]) (.seq (.rg true [⟨.some 3, .none, .fa 1 (.t 1)⟩, ⟨.some 4, .none, .ld .none (.t 3)⟩, ⟨.some 5, .none, .fa 1 (.t 1)⟩, ⟨.some 6, .none, .ld .none (.t 5)⟩, ⟨.some 7, .none, .lenS (.t 6)⟩, ⟨.some 8, .none, .mnmx false [.t 7, .c (.int .i64 70)]⟩, ⟨.some 9, .none, .slcS (.t 4) .none (.some (.t 8))⟩, ⟨.some 10, .none, .fa 2 (.t 1)⟩, ⟨.some 11, .none, .ld .none (.t 10)⟩, ⟨.some 12, .none, .fa 2 (.t 1)⟩, ⟨.some 13, .none, .ld .none (.t 12)⟩, ⟨.some 14, .none, .lenS (.t 13)⟩, ⟨.some 15, .none, .mnmx false [.t 14, .c (.int .i64 17000)]⟩, ⟨.some 16, .none, .slcS (.t 11) .none (.some (.t 15))⟩, ⟨.some 17, .none, .fa 1 (.t 1)⟩, ⟨.none, .none, .st 1 (.t 17) (.t 9)⟩, ⟨.some 18, .none, .fa 2 (.t 1)⟩, ⟨.none, .none, .st 1 (.t 18) (.t 16)⟩]) (.seq (.rg false [⟨.some 19, .none, .ld (.some 3) (.t 1)⟩, ⟨.none, .none, .st 3 (.t 2) (.t 19)⟩]) .ret))))
def d256 : Def := (.code 2 [.tmp 4] (.seq (.rg false [⟨.some 2, .none, .box (.t 0)⟩, ⟨.some 3, .none, .box (.t 1)⟩, ⟨.some 4, .none, .mv (.c (.bool false))⟩]) (.seq (.seq (.rg false [⟨.some 6, .none, .fa 0 (.t 2)⟩, ⟨.some 7, .none, .ld .none (.t 6)⟩, ⟨.some 8, .none, .lenL (.t 7)⟩, ⟨.some 9, .none, .fa 0 (.t 3)⟩, ⟨.some 10, .none, .ld .none (.t 9)⟩, ⟨.some 11, .none, .lenL (.t 10)⟩, ⟨.some 12, .none, .bin .neq (.t 8) (.t 11)⟩]) (.cond (.t 12) (.seq (.rg false [⟨.some 4, .none, .mv (.c (.bool false))⟩]) .ret) .skip)) (.seq (.seq (.rg false [⟨.some 13, .none, .fa 0 (.t 2)⟩, ⟨.some 14, .none, .ld .none (.t 13)⟩, ⟨.some 15, .none, .lenL (.t 14)⟩, ⟨.some 16, .none, .mv (.c (.int .i64 0))⟩]) (.block 0 (.loop (.seq (.rg false [⟨.some 17, .none, .bin .lss (.t 16) (.t 15)⟩]) (.seq (.cond (.t 17) .skip (.exit 0)) (.seq (.block 1 (.seq (.rg false [⟨.some 18, .none, .mv (.t 16)⟩, ⟨.some 5, .none, .mv (.t 18)⟩]) (.seq (.rg true [⟨.some 19, .none, .fa 0 (.t 2)⟩, ⟨.some 20, .none, .ld .none (.t 19)⟩, ⟨.some 21, .none, .mv (.t 5)⟩, ⟨.some 22, .none, .ia 3 (.t 20) (.t 21)⟩, ⟨.some 23, .none, .ld (.some 3) (.t 22)⟩, ⟨.some 24, .none, .fa 0 (.t 3)⟩, ⟨.some 25, .none, .ld .none (.t 24)⟩, ⟨.some 26, .none, .mv (.t 5)⟩, ⟨.some 27, .none, .ia 3 (.t 25) (.t 26)⟩, ⟨.some 28, .none, .ld (.some 3) (.t 27)⟩, ⟨.some 29, .none, .eqs true [2, 2, 2] (.t 23) (.t 28)⟩]) (.cond (.t 29) (.seq (.rg false [⟨.some 4, .none, .mv (.c (.bool false))⟩]) .ret) .skip)))) (.rg false [⟨.some 30, .none, .bin .add (.t 16) (.c (.int .i64 1))⟩, ⟨.some 16, .none, .mv (.t 30)⟩]))))))) (.seq (.rg false [⟨.some 4, .none, .mv (.c (.bool true))⟩]) .ret)))))
def lji : List (Nat × Def) := [(252, d252), (253, d253)]
def ljj : List (Nat × Def) := [(256, d256)]
def cutF (f : Fl) : Fl := ⟨f.n.take 70, f.s.take 17000, f.t.take 17000⟩
def fewF (l : List Fl) : List Fl := (l.take 18).map cutF
def cutO (o : Op9) : Op9 := ⟨o.k, o.n.take 70, o.d.take 17000⟩
theorem cut_take9 (l : List UInt8) (n : Nat) : l.take (min l.length n) = l.take n := by
  by_cases h : l.length ≤ n
  · rw [Nat.min_eq_left h, List.take_length, List.take_of_length_le h]
  · rw [Nat.min_eq_right (by omega)]
theorem take_le9 (l : List UInt8) (n : Nat) : (l.take n).length ≤ n := by rw [List.length_take]; omega
theorem fewF_len (l : List Fl) : (fewF l).length ≤ 18 := by
  unfold fewF
  rw [List.length_map, List.length_take]; omega
theorem fewF_sm (l : List Fl) : ∀ f ∈ fewF l, f.Sm := by
  intro f hf
  simp only [fewF, List.mem_map] at hf
  obtain ⟨g, _, rfl⟩ := hf
  have h1 := take_le9 g.n 70
  have h2 := take_le9 g.s 17000
  have h3 := take_le9 g.t 17000
  exact ⟨show (g.n.take 70).length ≤ _ by omega, show (g.s.take 17000).length ≤ _ by omega, show (g.t.take 17000).length ≤ _ by omega⟩
theorem cutO_sm (o : Op9) : (cutO o).Sm := by
  have h1 := take_le9 o.n 70
  have h2 := take_le9 o.d 17000
  exact ⟨show (o.n.take 70).length ≤ _ by omega, show (o.d.take 17000).length ≤ _ by omega⟩
section
variable {env : Nat → Option Def} {fr : Fr} {σ σ' σ'' : St} {K : Fr → St → Prop} {Q : X → Fr → St → Prop} {p : PV} {bs : List UInt8}
theorem a253 (I : Has lji env) (o : Op9) : AV env 253 [opV o] = some (opV (cutO o)) := by
  have b1 : ∀ (n : Nat) (k : IntKind), bound n (.sc (.int k (min (n : Int) 70))) = some (min n 70) := fun n k => bound_min rfl
  have b2 : ∀ (n : Nat) (k : IntKind), bound n (.sc (.int k (min (n : Int) 17000))) = some (min n 17000) := fun n k => bound_min rfl
  have c1 := cut_take9 o.n 70
  have c2 := cut_take9 o.d 17000
  refine AV_wp (I (253, d253) (by simp [lji])) rfl ?_
  unfold opV cutO
  generalize o.n.take 70 = n' at c1
  generalize o.d.take 17000 = d' at c2
  (repeat' first
    | refine w_seq ?_ | refine w_rg ?_ | refine wo_nil ?_ | refine g_skU ?_ | refine g_skT ?_ | refine g_skF ?_
    | ((first | apply s_plain | apply s_void | apply s_guard | apply g_goT | apply g_goF); · simp only [go_sem, Nat.reduceEqDiff, Nat.reduceAdd, Nat.reduceLeDiff, mn2, b1, b2, c1, c2, List.drop_zero, List.size_toArray, List.set_cons_succ]; (first | done | rfl))
    | ((first | apply g_T | apply g_F | apply g_gT | apply g_gF); · intro q1_; (first | intro q2_ | have q2_ := q1_); simp only [go_sem, Nat.reduceEqDiff, Nat.reduceAdd, Nat.reduceLeDiff, mn2, b1, b2, c1, c2, List.drop_zero, List.size_toArray, List.set_cons_succ, q1_, q2_]; (first | done | rfl))
    | (apply w_condX; · simp only [go_sem, Nat.reduceEqDiff, Nat.reduceAdd, Nat.reduceLeDiff, mn2, b1, b2, c1, c2, List.drop_zero, List.size_toArray, List.set_cons_succ]; (first | done | rfl)); (first | refine wcd_T ?_ | refine wcd_F ?_)
    | refine w_skip ?_ | refine w_exit ?_ | refine w_ret ?_
    | fail
    )
  exact ⟨by first | exact .inr rfl | exact .inr trivial | exact .inl rfl, by simp only [go_sem, Nat.reduceEqDiff, Nat.reduceAdd, Nat.reduceLeDiff, retOf, resOf, List.set_cons_succ]; first | done | rfl⟩
theorem a256 (L : Has ljj env) {a b : List Fl} (hn : a.length ≤ 9223372036854775807) : AV env 256 [.agg [.sl (fls a)], .agg [.sl (fls b)]] = some (.sc (.bool (decide (a = b)))) := by
  have hla := fls_len a
  have hlb := fls_len b
  refine AV_wp (L (256, d256) (by simp [ljj])) rfl ?_
  by_cases hl : a.length = b.length
  · have hc : ((a.length : Int) != (b.length : Int)) = false := by rw [hl]; simp
    (repeat' first
    | refine w_seq ?_ | refine w_rg ?_ | refine wo_nil ?_ | refine g_skU ?_ | refine g_skT ?_ | refine g_skF ?_
    | ((first | apply s_plain | apply s_void | apply s_guard | apply g_goT | apply g_goF); · simp only [go_sem, Nat.reduceEqDiff, Nat.reduceAdd, Nat.reduceLeDiff, hla, hlb, hc]; (first | done | rfl))
    | ((first | apply g_T | apply g_F | apply g_gT | apply g_gF); · intro q1_; (first | intro q2_ | have q2_ := q1_); simp only [go_sem, Nat.reduceEqDiff, Nat.reduceAdd, Nat.reduceLeDiff, hla, hlb, hc, q1_, q2_]; (first | done | rfl))
    | (apply w_condX; · simp only [go_sem, Nat.reduceEqDiff, Nat.reduceAdd, Nat.reduceLeDiff, hla, hlb, hc]; (first | done | rfl)); (first | refine wcd_T ?_ | refine wcd_F ?_)
    | refine w_skip ?_ | refine w_exit ?_ | refine w_ret ?_
    | fail
    )
    refine w_block (w_rangeF a.length hn (fun i fr σ => (∀ j, j < i → a[j]? = b[j]?) ∧ σ.m 2000002 0 = some ⟨1, [.agg [.sl (fls a)]], true, true⟩ ∧ σ.m 2000003 0 = some ⟨1, [.agg [.sl (fls b)]], true, true⟩) ⟨by decide, rfl, rfl⟩ (fun _ _ _ _ h => ⟨h, h, h⟩) ⟨fun j hj => by omega, by simp only [go_sem, Nat.reduceEqDiff, Nat.reduceAdd, Nat.reduceLeDiff], by simp only [go_sem, Nat.reduceEqDiff, Nat.reduceAdd, Nat.reduceLeDiff]⟩ (by simp only [go_sem, Nat.reduceEqDiff, Nat.reduceAdd, Nat.reduceLeDiff]; first | done | rfl) (by simp only [go_sem, Nat.reduceEqDiff, Nat.reduceAdd, Nat.reduceLeDiff, hla]; first | done | rfl) ?_ ?_)
    · rintro i fr1 σ1 hi ⟨h3, g2, g3⟩ hti hfr
      have f0_2 := hfr 2 rfl; have f0_3 := hfr 3 rfl; have f0_15 := hfr 15 rfl; try (simp only [go_sem, Nat.reduceEqDiff, Nat.reduceAdd, Nat.reduceLeDiff] at f0_2); try (simp only [go_sem, Nat.reduceEqDiff, Nat.reduceAdd, Nat.reduceLeDiff] at f0_3); try (simp only [go_sem, Nat.reduceEqDiff, Nat.reduceAdd, Nat.reduceLeDiff] at f0_15)
      have hi2 : i < b.length := by omega
      have qa := List.getElem?_eq_getElem hi
      have qb := List.getElem?_eq_getElem hi2
      have hx := fls_at qa
      have hy := fls_at qb
      have e1 : (0 : Int) ≤ (i : Int) ∧ (i : Int) < (a.length : Int) := by omega
      have e2 : (0 : Int) ≤ (i : Int) ∧ (i : Int) < (b.length : Int) := by omega
      have heq : eqL [2, 2, 2] [txt a[i].n, txt a[i].s, txt a[i].t] [txt b[i].n, txt b[i].s, txt b[i].t] = some (decide (a[i] = b[i])) := by
        have q : ∀ u v : List UInt8, (u == v) = decide (u = v) := fun u v => by rw [Bool.eq_iff_iff]; simp
        simp only [eqL, eq1, ba_toList, Option.bind_some, q]
        have hiff : a[i] = b[i] ↔ a[i].n = b[i].n ∧ a[i].s = b[i].s ∧ a[i].t = b[i].t := by
          constructor
          · intro h; rw [h]; exact ⟨rfl, rfl, rfl⟩
          · rintro ⟨h1, h2, h3⟩
            cases ha : a[i]
            cases hb : b[i]
            rw [ha, hb] at h1 h2 h3
            simp only at h1 h2 h3
            subst h1 h2 h3
            rfl
        by_cases k1 : a[i].n = b[i].n
        · by_cases k2 : a[i].s = b[i].s
          · by_cases k3 : a[i].t = b[i].t
            · rw [decide_eq_true (hiff.2 ⟨k1, k2, k3⟩)]; simp [k1, k2, k3]
            · rw [decide_eq_false (fun h => k3 (hiff.1 h).2.2)]; simp [k1, k2, k3]
          · rw [decide_eq_false (fun h => k2 (hiff.1 h).2.1)]; simp [k1, k2]
        · rw [decide_eq_false (fun h => k1 (hiff.1 h).1)]; simp [k1]
      unfold fl at hx hy
      refine w_block ?_
      by_cases he : a[i] = b[i]
      · rw [decide_eq_true he] at heq
        (repeat' first
    | refine w_seq ?_ | refine w_rg ?_ | refine wo_nil ?_ | refine g_skU ?_ | refine g_skT ?_ | refine g_skF ?_
    | ((first | apply s_plain | apply s_void | apply s_guard | apply g_goT | apply g_goF); · simp only [go_sem, Nat.reduceEqDiff, Nat.reduceAdd, Nat.reduceLeDiff, f0_2, f0_3, f0_15, hti, e1, e2, hla, hlb, Int.toNat_natCast, hx, hy, g2, g3, heq, bne_self_eq_false]; (first | done | rfl))
    | ((first | apply g_T | apply g_F | apply g_gT | apply g_gF); · intro q1_; (first | intro q2_ | have q2_ := q1_); simp only [go_sem, Nat.reduceEqDiff, Nat.reduceAdd, Nat.reduceLeDiff, f0_2, f0_3, f0_15, hti, e1, e2, hla, hlb, Int.toNat_natCast, hx, hy, g2, g3, heq, bne_self_eq_false, q1_, q2_]; (first | done | rfl))
    | (apply w_condX; · simp only [go_sem, Nat.reduceEqDiff, Nat.reduceAdd, Nat.reduceLeDiff, f0_2, f0_3, f0_15, hti, e1, e2, hla, hlb, Int.toNat_natCast, hx, hy, g2, g3, heq, bne_self_eq_false]; (first | done | rfl)); (first | refine wcd_T ?_ | refine wcd_F ?_)
    | refine w_skip ?_ | refine w_exit ?_ | refine w_ret ?_
    | fail
    )
        refine ⟨fun j hj => ?_, g2, g3⟩
        by_cases hji : j = i
        · rw [hji, qa, qb, he]
        · exact h3 j (by omega)
      · rw [decide_eq_false he] at heq
        have hne : a ≠ b := fun h => he (by subst h; rfl)
        have hft : (false != true) = true := rfl
        (repeat' first
    | refine w_seq ?_ | refine w_rg ?_ | refine wo_nil ?_ | refine g_skU ?_ | refine g_skT ?_ | refine g_skF ?_
    | ((first | apply s_plain | apply s_void | apply s_guard | apply g_goT | apply g_goF); · simp only [go_sem, Nat.reduceEqDiff, Nat.reduceAdd, Nat.reduceLeDiff, f0_2, f0_3, f0_15, hti, e1, e2, hla, hlb, Int.toNat_natCast, hx, hy, g2, g3, heq, hft]; (first | done | rfl))
    | ((first | apply g_T | apply g_F | apply g_gT | apply g_gF); · intro q1_; (first | intro q2_ | have q2_ := q1_); simp only [go_sem, Nat.reduceEqDiff, Nat.reduceAdd, Nat.reduceLeDiff, f0_2, f0_3, f0_15, hti, e1, e2, hla, hlb, Int.toNat_natCast, hx, hy, g2, g3, heq, hft, q1_, q2_]; (first | done | rfl))
    | (apply w_condX; · simp only [go_sem, Nat.reduceEqDiff, Nat.reduceAdd, Nat.reduceLeDiff, f0_2, f0_3, f0_15, hti, e1, e2, hla, hlb, Int.toNat_natCast, hx, hy, g2, g3, heq, hft]; (first | done | rfl)); (first | refine wcd_T ?_ | refine wcd_F ?_)
    | refine w_skip ?_ | refine w_exit ?_ | refine w_ret ?_
    | fail
    )
        exact ⟨by first | exact .inr rfl | exact .inr trivial | exact .inl rfl, by simp only [go_sem, Nat.reduceEqDiff, Nat.reduceAdd, Nat.reduceLeDiff, retOf, resOf, decide_eq_false hne]; first | done | rfl⟩
    · rintro fr1 σ1 ⟨h3, g2, g3⟩ hfr
      try simp only [if_true]
      have heq : a = b := List.ext_getElem? fun i => by
        by_cases hi : i < a.length
        · exact h3 i hi
        · rw [List.getElem?_eq_none (by omega), List.getElem?_eq_none (by omega)]
      (repeat' first
    | refine w_seq ?_ | refine w_rg ?_ | refine wo_nil ?_ | refine g_skU ?_ | refine g_skT ?_ | refine g_skF ?_
    | ((first | apply s_plain | apply s_void | apply s_guard | apply g_goT | apply g_goF); · simp only [go_sem, Nat.reduceEqDiff, Nat.reduceAdd, Nat.reduceLeDiff]; (first | done | rfl))
    | ((first | apply g_T | apply g_F | apply g_gT | apply g_gF); · intro q1_; (first | intro q2_ | have q2_ := q1_); simp only [go_sem, Nat.reduceEqDiff, Nat.reduceAdd, Nat.reduceLeDiff, q1_, q2_]; (first | done | rfl))
    | (apply w_condX; · simp only [go_sem, Nat.reduceEqDiff, Nat.reduceAdd, Nat.reduceLeDiff]; (first | done | rfl)); (first | refine wcd_T ?_ | refine wcd_F ?_)
    | refine w_skip ?_ | refine w_exit ?_ | refine w_ret ?_
    | fail
    )
      exact ⟨by first | exact .inr rfl | exact .inr trivial | exact .inl rfl, by simp only [go_sem, Nat.reduceEqDiff, Nat.reduceAdd, Nat.reduceLeDiff, retOf, resOf, decide_eq_true heq]; first | done | rfl⟩
  · have hc : ((a.length : Int) != (b.length : Int)) = true := by simpa using fun h => hl (by omega)
    have hne : a ≠ b := fun h => hl (by rw [h])
    (repeat' first
    | refine w_seq ?_ | refine w_rg ?_ | refine wo_nil ?_ | refine g_skU ?_ | refine g_skT ?_ | refine g_skF ?_
    | ((first | apply s_plain | apply s_void | apply s_guard | apply g_goT | apply g_goF); · simp only [go_sem, Nat.reduceEqDiff, Nat.reduceAdd, Nat.reduceLeDiff, hla, hlb, hc]; (first | done | rfl))
    | ((first | apply g_T | apply g_F | apply g_gT | apply g_gF); · intro q1_; (first | intro q2_ | have q2_ := q1_); simp only [go_sem, Nat.reduceEqDiff, Nat.reduceAdd, Nat.reduceLeDiff, hla, hlb, hc, q1_, q2_]; (first | done | rfl))
    | (apply w_condX; · simp only [go_sem, Nat.reduceEqDiff, Nat.reduceAdd, Nat.reduceLeDiff, hla, hlb, hc]; (first | done | rfl)); (first | refine wcd_T ?_ | refine wcd_F ?_)
    | refine w_skip ?_ | refine w_exit ?_ | refine w_ret ?_
    | fail
    )
    exact ⟨by first | exact .inr rfl | exact .inr trivial | exact .inl rfl, by simp only [go_sem, Nat.reduceEqDiff, Nat.reduceAdd, Nat.reduceLeDiff, retOf, resOf, decide_eq_false hne]; first | done | rfl⟩
theorem gat_ok9 {os : List Nat} {es : Nat} {w : Bool} {xs : List PV} (h : Gat σ os es w p xs) : cellsOf p = [p] ∧ okc p = true := by
  rcases h with ⟨rfl, _⟩ | ⟨o, g, wr, _, rfl, _⟩ <;> exact ⟨rfl, rfl⟩
theorem a252 (I : Has lji env) {l : List Fl} (hn : l.length ≤ 9223372036854775807) : AV env 252 [.agg [.sl (fls l)]] = some (.agg [.sl (fls (fewF l))]) := by
  have b1 : ∀ (n : Nat) (k : IntKind), bound n (.sc (.int k (min (n : Int) 70))) = some (min n 70) := fun n k => bound_min rfl
  have b2 : ∀ (n : Nat) (k : IntKind), bound n (.sc (.int k (min (n : Int) 17000))) = some (min n 17000) := fun n k => bound_min rfl
  have b3 : ∀ (n : Nat) (k : IntKind), bound n (.sc (.int k (min (n : Int) 18))) = some (min n 18) := fun n k => bound_min rfl
  have hln := fls_len l
  have hall : (fls l).all (fun x => (cellsOf x).length == 3) = true := by
    rw [List.all_eq_true]
    intro x hx
    simp only [fls, List.mem_map] at hx
    obtain ⟨f, _, rfl⟩ := hx
    rfl
  have hcut : (fls l).take (min l.length 18) = fls (l.take 18) := by
    by_cases h : l.length ≤ 18
    · rw [Nat.min_eq_left h, List.take_of_length_le (by omega), List.take_of_length_le h]
    · rw [Nat.min_eq_right (by omega)]
      simp only [fls, List.map_take]
  have hll : (l.take 18).length ≤ 18 := by rw [List.length_take]; omega
  refine AV_wp (I (252, d252) (by simp [lji])) rfl ?_
  unfold fewF
  generalize l.take 18 = m at hcut hll
  have hlm := fls_len m
  (repeat' first
    | refine w_seq ?_ | refine w_rg ?_ | refine wo_nil ?_ | refine g_skU ?_ | refine g_skT ?_ | refine g_skF ?_
    | ((first | apply s_plain | apply s_void | apply s_guard | apply g_goT | apply g_goF); · simp only [go_sem, Nat.reduceEqDiff, Nat.reduceAdd, Nat.reduceLeDiff, mn2, hln, slcLP_sl, hall, b3, hcut, List.drop_zero, hlm]; (first | done | rfl))
    | ((first | apply g_T | apply g_F | apply g_gT | apply g_gF); · intro q1_; (first | intro q2_ | have q2_ := q1_); simp only [go_sem, Nat.reduceEqDiff, Nat.reduceAdd, Nat.reduceLeDiff, mn2, hln, slcLP_sl, hall, b3, hcut, List.drop_zero, hlm, q1_, q2_]; (first | done | rfl))
    | fail
    )
  refine w_block (w_rangeF m.length (by omega) (fun i fr σ => ∃ e p, σ.m 2000003 0 = some ⟨1, [e], true, true⟩ ∧ cellsOf e = [p] ∧ Gat σ [43] 3 false p (fls ((m.take i).map cutF)) ∧ Fresh σ ∧ σ.m 2000002 0 = some ⟨1, [.agg [.em]], true, true⟩) ⟨by decide, rfl, rfl⟩ (fun _ _ _ _ h => ⟨h, h, h⟩) ⟨.agg [.em], .em, by simp only [go_sem, Nat.reduceEqDiff, Nat.reduceAdd, Nat.reduceLeDiff], rfl, .em, ((Fresh.nil.new _ _).new _ _).new _ _, by simp only [go_sem, Nat.reduceEqDiff, Nat.reduceAdd, Nat.reduceLeDiff]⟩ (by simp only [go_sem, Nat.reduceEqDiff, Nat.reduceAdd, Nat.reduceLeDiff]; first | done | rfl) (by simp only [go_sem, Nat.reduceEqDiff, Nat.reduceAdd, Nat.reduceLeDiff, hlm]; first | done | rfl) ?_ ?_)
  · rintro i fr1 σ1 hi ⟨e, p, g3, he, hg, hF, g2⟩ hti hfr
    have f0_3 := hfr 3 rfl; have f0_12 := hfr 12 rfl; have f0_13 := hfr 13 rfl; try (simp only [go_sem, Nat.reduceEqDiff, Nat.reduceAdd, Nat.reduceLeDiff] at f0_3); try (simp only [go_sem, Nat.reduceEqDiff, Nat.reduceAdd, Nat.reduceLeDiff] at f0_12); try (simp only [go_sem, Nat.reduceEqDiff, Nat.reduceAdd, Nat.reduceLeDiff] at f0_13)
    have hx := List.getElem?_eq_getElem hi
    have hy := fls_at hx
    have e1 : (0 : Int) ≤ (i : Int) ∧ (i : Int) < (m.length : Int) := by omega
    have hmap : (m.take (i + 1)).map cutF = (m.take i).map cutF ++ [cutF m[i]] := by
      rw [List.take_succ_eq_append_getElem hi, List.map_append, List.map_singleton]
    rw [hmap]
    generalize hM : (m.take i).map cutF = M at hg ⊢
    have hML : M.length = i := by rw [← hM, List.length_map, List.length_take]; omega
    generalize m[i] = f at hx hy ⊢
    have c1 := cut_take9 f.n 70
    have c2 := cut_take9 f.s 17000
    have c3 := cut_take9 f.t 17000
    unfold fl at hy
    obtain ⟨ok1, ok2⟩ := gat_ok9 hg
    unfold cutF
    generalize f.n.take 70 = n' at c1 ⊢
    generalize f.s.take 17000 = s' at c2 ⊢
    generalize f.t.take 17000 = t' at c3 ⊢
    have hlt3 : 0 < σ1.c 2000003 := hF _ _ (by rw [g3]; rfl)
    have hlt2 : 0 < σ1.c 2000002 := hF _ _ (by rw [g2]; rfl)
    refine w_block ?_
    (repeat' first
    | refine w_seq ?_ | refine w_rg ?_ | refine wo_nil ?_ | refine g_skU ?_ | refine g_skT ?_ | refine g_skF ?_
    | ((first | apply s_plain | apply s_void | apply s_guard | apply g_goT | apply g_goF); · simp only [go_sem, Nat.reduceEqDiff, Nat.reduceAdd, Nat.reduceLeDiff, f0_3, f0_12, f0_13, hti, e1, hlm, Int.toNat_natCast, hy, g3, he, mn2, b1, b2, c1, c2, c3, List.drop_zero, List.size_toArray, List.set_cons_succ]; (first | done | rfl))
    | ((first | apply g_T | apply g_F | apply g_gT | apply g_gF); · intro q1_; (first | intro q2_ | have q2_ := q1_); simp only [go_sem, Nat.reduceEqDiff, Nat.reduceAdd, Nat.reduceLeDiff, f0_3, f0_12, f0_13, hti, e1, hlm, Int.toNat_natCast, hy, g3, he, mn2, b1, b2, c1, c2, c3, List.drop_zero, List.size_toArray, List.set_cons_succ, q1_, q2_]; (first | done | rfl))
    | fail
    )
    have k1 := ((Kp.refl (P := (2000000 ≤ ·)) hF).new 2000005 ⟨3, [.agg [.sc (.string ⟨#[]⟩), .sc (.string ⟨#[]⟩), .sc (.string ⟨#[]⟩)]], true, true⟩).put (x := ⟨3, [.agg [.sc (.string ⟨#[]⟩), .sc (.string ⟨#[]⟩), .sc (.string ⟨#[]⟩)]], true, true⟩) (o := 2000005) (g := σ1.c 2000005) (by simp only [go_sem, Nat.reduceEqDiff, Nat.reduceAdd, Nat.reduceLeDiff]) (.inr (Nat.le_refl _)) (some ⟨3, [.agg [txt f.n, txt f.s, txt f.t]], true, true⟩)
    have k2 := k1.new 42 ⟨3, [.agg [txt n', txt s', txt t']], true, true⟩
    refine s_gat2 (d := 43) (t := 19) (x := .t 42) (xs := fls M) (e := .agg [txt n', txt s', txt t']) (by simp only [go_sem, Nat.reduceEqDiff, Nat.reduceAdd, Nat.reduceLeDiff]; exact ((hg.new _).put (d := 2000005) (by decide) _).new _) k2.f (by simp only [go_sem, Nat.reduceEqDiff, Nat.reduceAdd, Nat.reduceLeDiff, srcOf, elemsOf, List.set_cons_succ]) rfl rfl (by rw [fls_len]; omega) ?_
    intro p2 σ2 hg2 hF2 _ hm2 hc2 hd2
    have hm3 : σ2.m 2000003 0 = some ⟨1, [e], true, true⟩ := by rw [hm2 _ _ (by decide)]; simp only [go_sem, Nat.reduceEqDiff, Nat.reduceAdd, Nat.reduceLeDiff, g3]
    have hm22 : σ2.m 2000002 0 = some ⟨1, [.agg [.em]], true, true⟩ := by rw [hm2 _ _ (by decide)]; simp only [go_sem, Nat.reduceEqDiff, Nat.reduceAdd, Nat.reduceLeDiff, g2]
    obtain ⟨ok3, ok4⟩ := gat_ok9 hg2
    (repeat' first
    | refine w_seq ?_ | refine w_rg ?_ | refine wo_nil ?_ | refine g_skU ?_ | refine g_skT ?_ | refine g_skF ?_
    | ((first | apply s_plain | apply s_void | apply s_guard | apply g_goT | apply g_goF); · simp only [go_sem, Nat.reduceEqDiff, Nat.reduceAdd, Nat.reduceLeDiff, f0_3, f0_12, f0_13, hm3, ok3, ok4, List.set_cons_succ]; (first | done | rfl))
    | ((first | apply g_T | apply g_F | apply g_gT | apply g_gF); · intro q1_; (first | intro q2_ | have q2_ := q1_); simp only [go_sem, Nat.reduceEqDiff, Nat.reduceAdd, Nat.reduceLeDiff, f0_3, f0_12, f0_13, hm3, ok3, ok4, List.set_cons_succ, q1_, q2_]; (first | done | rfl))
    | fail
    )
    try simp only [if_true]
    refine ⟨p2, p2, by simp only [go_sem, Nat.reduceEqDiff, Nat.reduceAdd, Nat.reduceLeDiff, List.set_cons_succ], ok3, ?_, hF2.put hm3 _, by simp only [go_sem, Nat.reduceEqDiff, Nat.reduceAdd, Nat.reduceLeDiff, hm22]⟩
    have : fls (M ++ [⟨n', s', t'⟩]) = fls M ++ [.agg [txt n', txt s', txt t']] := by
      simp only [fls, List.map_append, List.map_singleton, fl]
    rw [this]
    exact hg2.put (d := 2000003) (by decide) _
  · rintro fr1 σ1 ⟨e, p, g3, he, hg, hF, g2⟩ hfr
    rw [List.take_of_length_le (Nat.le_refl _)] at hg
    have e0_2 := hfr 2 rfl; have e0_3 := hfr 3 rfl; try (simp only [go_sem, Nat.reduceEqDiff, Nat.reduceAdd, Nat.reduceLeDiff] at e0_2); try (simp only [go_sem, Nat.reduceEqDiff, Nat.reduceAdd, Nat.reduceLeDiff] at e0_3)
    try simp only [if_true]
    obtain ⟨ok1, ok2⟩ := gat_ok9 hg
    have hfz : ∀ y, fz (σ1.put 2000002 0 y) 11 p = some (.sl (fls (m.map cutF))) := fun y => gat_fzd (hg.put (d := 2000002) (by decide) y) (fls_fz _ 8 _)
    (repeat' first
    | refine w_seq ?_ | refine w_rg ?_ | refine wo_nil ?_ | refine g_skU ?_ | refine g_skT ?_ | refine g_skF ?_
    | ((first | apply s_plain | apply s_void | apply s_guard | apply g_goT | apply g_goF); · simp only [go_sem, Nat.reduceEqDiff, Nat.reduceAdd, Nat.reduceLeDiff, e0_2, e0_3, g3, he, g2, ok1, ok2]; (first | done | rfl))
    | ((first | apply g_T | apply g_F | apply g_gT | apply g_gF); · intro q1_; (first | intro q2_ | have q2_ := q1_); simp only [go_sem, Nat.reduceEqDiff, Nat.reduceAdd, Nat.reduceLeDiff, e0_2, e0_3, g3, he, g2, ok1, ok2, q1_, q2_]; (first | done | rfl))
    | (apply w_condX; · simp only [go_sem, Nat.reduceEqDiff, Nat.reduceAdd, Nat.reduceLeDiff, e0_2, e0_3, g3, he, g2, ok1, ok2]; (first | done | rfl)); (first | refine wcd_T ?_ | refine wcd_F ?_)
    | refine w_skip ?_ | refine w_exit ?_ | refine w_ret ?_
    | fail
    )
    exact ⟨by first | exact .inr rfl | exact .inr trivial | exact .inl rfl, by simp only [go_sem, Nat.reduceEqDiff, Nat.reduceAdd, Nat.reduceLeDiff, retOf, resOf, e0_2, e0_3, g2, ok1, ok2, hfz]; first | done | rfl⟩
end

def d248 : Def := (.code 3 [.tmp 6] (.seq (.rg false [⟨.some 3, .none, .box (.t 0)⟩, ⟨.some 4, .none, .box (.t 1)⟩, ⟨.some 5, .none, .box (.t 2)⟩, ⟨.some 6, .none, .mv (.c (.bool false))⟩]) (.seq (.rg true [⟨.some 16, .none, .ld (.some 1) (.t 3)⟩, ⟨.some 17, .none, .call 252 .strict [.t 16]⟩, ⟨.some 18, .none, .ld (.some 3) (.t 4)⟩, ⟨.some 19, .none, .call 253 .strict [.t 18]⟩, ⟨.some 20, .none, .ld (.some 3) (.t 5)⟩, ⟨.some 21, .none, .call 253 .strict [.t 20]⟩, ⟨.none, .none, .st 1 (.t 3) (.t 17)⟩, ⟨.none, .none, .st 3 (.t 4) (.t 19)⟩, ⟨.none, .none, .st 3 (.t 5) (.t 21)⟩]) (.seq (.rg false [⟨.some 22, .none, .mkm⟩, ⟨.some 23, .none, .fa 1 (.t 4)⟩, ⟨.some 24, .none, .ld .none (.t 23)⟩, ⟨.none, .none, .mput 2 (.t 22) (.t 24) (.c (.int .i64 1))⟩, ⟨.some 25, .none, .mv (.t 22)⟩, ⟨.some 7, .none, .mv (.t 25)⟩]) (.seq (.seq (.rg false [⟨.some 26, .none, .fa 0 (.t 4)⟩, ⟨.some 27, .none, .ld .none (.t 26)⟩, ⟨.some 28, .none, .bin .eql (.t 27) (.c (.int .i64 3))⟩]) (.cond (.t 28) (.rg false [⟨.some 29, .none, .mv (.t 7)⟩, ⟨.some 30, .none, .fa 2 (.t 4)⟩, ⟨.some 31, .none, .ld .none (.t 30)⟩, ⟨.none, .none, .mput 2 (.t 29) (.t 31) (.c (.int .i64 1))⟩]) .skip)) (.seq (.seq (.rg false [⟨.some 32, .none, .mv (.t 7)⟩, ⟨.some 33, .none, .fa 1 (.t 5)⟩, ⟨.some 34, .none, .ld .none (.t 33)⟩, ⟨.some 35, .none, .mget 2 (.int .i64 0) false (.t 32) (.t 34)⟩, ⟨.some 36, .none, .bin .eql (.t 35) (.c (.int .i64 1))⟩, ⟨.some 37, .none, .mv (.t 36)⟩, ⟨.some 38, .some (37, false), .fa 0 (.t 5)⟩, ⟨.some 39, .some (37, false), .ld .none (.t 38)⟩, ⟨.some 40, .some (37, false), .bin .eql (.t 39) (.c (.int .i64 3))⟩, ⟨.some 41, .some (37, false), .mv (.t 40)⟩, ⟨.some 42, .some (41, true), .mv (.t 7)⟩, ⟨.some 43, .some (41, true), .fa 2 (.t 5)⟩, ⟨.some 44, .some (41, true), .ld .none (.t 43)⟩, ⟨.some 45, .some (41, true), .mget 2 (.int .i64 0) false (.t 42) (.t 44)⟩, ⟨.some 46, .some (41, true), .bin .eql (.t 45) (.c (.int .i64 1))⟩, ⟨.some 47, .some (37, false), .pick (.t 41) (.t 46) (.c (.bool false))⟩, ⟨.some 48, .none, .pick (.t 37) (.c (.bool true)) (.t 47)⟩]) (.cond (.t 48) (.seq (.rg false [⟨.some 49, .none, .call 254 .pure []⟩, ⟨.some 6, .none, .mv (.t 49)⟩]) .ret) .skip)) (.seq (.rg false [⟨.some 51, .none, .ld (.some 1) (.t 3)⟩, ⟨.some 52, .none, .ld (.some 3) (.t 4)⟩, ⟨.some 53, .none, .call 255 .pure [.t 51, .t 52]⟩, ⟨.some 50, .none, .mv (.t 53)⟩, ⟨.some 54, .none, .ext (.t 50) 0⟩, ⟨.some 55, .none, .ext (.t 50) 1⟩, ⟨.some 8, .none, .box (.c (.agg #[.slice .none 0 0]))⟩, ⟨.none, .none, .st 1 (.t 8) (.t 54)⟩, ⟨.some 9, .none, .mv (.t 55)⟩]) (.seq (.rg false [⟨.some 57, .none, .ld (.some 1) (.t 3)⟩, ⟨.some 58, .none, .ld (.some 3) (.t 5)⟩, ⟨.some 59, .none, .call 255 .pure [.t 57, .t 58]⟩, ⟨.some 56, .none, .mv (.t 59)⟩, ⟨.some 60, .none, .ext (.t 56) 0⟩, ⟨.some 61, .none, .ext (.t 56) 1⟩, ⟨.some 10, .none, .box (.c (.agg #[.slice .none 0 0]))⟩, ⟨.none, .none, .st 1 (.t 10) (.t 60)⟩, ⟨.some 11, .none, .mv (.t 61)⟩]) (.seq (.seq (.rg false [⟨.some 62, .none, .mv (.t 9)⟩, ⟨.some 63, .none, .bin .neq (.t 62) (.c (.int .i64 0))⟩, ⟨.some 64, .none, .mv (.t 63)⟩, ⟨.some 65, .some (64, false), .mv (.t 11)⟩, ⟨.some 66, .some (64, false), .bin .neq (.t 65) (.c (.int .i64 0))⟩, ⟨.some 67, .none, .pick (.t 64) (.c (.bool true)) (.t 66)⟩]) (.cond (.t 67) (.seq (.rg false [⟨.some 68, .none, .call 254 .pure []⟩, ⟨.some 69, .none, .mv (.t 68)⟩, ⟨.some 70, .some (69, true), .fa 0 (.t 8)⟩, ⟨.some 71, .some (69, true), .ld .none (.t 70)⟩, ⟨.some 72, .some (69, true), .lenL (.t 71)⟩, ⟨.some 73, .some (69, true), .fa 0 (.t 10)⟩, ⟨.some 74, .some (69, true), .ld .none (.t 73)⟩, ⟨.some 75, .some (69, true), .lenL (.t 74)⟩, ⟨.some 76, .some (69, true), .bin .mul (.t 72) (.t 75)⟩, ⟨.some 77, .some (69, true), .bin .eql (.t 76) (.c (.int .i64 0))⟩, ⟨.some 78, .none, .pick (.t 69) (.t 77) (.c (.bool false))⟩, ⟨.some 6, .none, .mv (.t 78)⟩]) .ret) .skip)) (.seq (.rg false [⟨.some 80, .none, .ld (.some 1) (.t 8)⟩, ⟨.some 81, .none, .ld (.some 3) (.t 5)⟩, ⟨.some 82, .none, .call 255 .pure [.t 80, .t 81]⟩, ⟨.some 79, .none, .mv (.t 82)⟩, ⟨.some 83, .none, .ext (.t 79) 0⟩, ⟨.some 84, .none, .ext (.t 79) 1⟩, ⟨.some 12, .none, .box (.c (.agg #[.slice .none 0 0]))⟩, ⟨.none, .none, .st 1 (.t 12) (.t 83)⟩, ⟨.some 13, .none, .mv (.t 84)⟩]) (.seq (.rg false [⟨.some 86, .none, .ld (.some 1) (.t 10)⟩, ⟨.some 87, .none, .ld (.some 3) (.t 4)⟩, ⟨.some 88, .none, .call 255 .pure [.t 86, .t 87]⟩, ⟨.some 85, .none, .mv (.t 88)⟩, ⟨.some 89, .none, .ext (.t 85) 0⟩, ⟨.some 90, .none, .ext (.t 85) 1⟩, ⟨.some 14, .none, .box (.c (.agg #[.slice .none 0 0]))⟩, ⟨.none, .none, .st 1 (.t 14) (.t 89)⟩, ⟨.some 15, .none, .mv (.t 90)⟩]) (.seq (.seq (.rg false [⟨.some 91, .none, .mv (.t 13)⟩, ⟨.some 92, .none, .bin .eql (.t 91) (.c (.int .i64 13))⟩, ⟨.some 93, .none, .mv (.t 92)⟩, ⟨.some 94, .some (93, false), .mv (.t 15)⟩, ⟨.some 95, .some (93, false), .bin .eql (.t 94) (.c (.int .i64 13))⟩, ⟨.some 96, .none, .pick (.t 93) (.c (.bool true)) (.t 95)⟩]) (.cond (.t 96) (.seq (.rg false [⟨.some 97, .none, .call 254 .pure []⟩, ⟨.some 6, .none, .mv (.t 97)⟩]) .ret) .skip)) (.seq (.rg false [⟨.some 98, .none, .call 254 .pure []⟩, ⟨.some 99, .none, .mv (.t 98)⟩, ⟨.some 100, .some (99, true), .mv (.t 13)⟩, ⟨.some 101, .some (99, true), .bin .eql (.t 100) (.c (.int .i64 0))⟩, ⟨.some 102, .none, .pick (.t 99) (.t 101) (.c (.bool false))⟩, ⟨.some 103, .none, .mv (.t 102)⟩, ⟨.some 104, .some (103, true), .mv (.t 15)⟩, ⟨.some 105, .some (103, true), .bin .eql (.t 104) (.c (.int .i64 0))⟩, ⟨.some 106, .none, .pick (.t 103) (.t 105) (.c (.bool false))⟩, ⟨.some 107, .none, .mv (.t 106)⟩, ⟨.some 108, .some (107, true), .ld (.some 1) (.t 12)⟩, ⟨.some 109, .some (107, true), .ld (.some 1) (.t 14)⟩, ⟨.some 110, .some (107, true), .call 256 .pure [.t 108, .t 109]⟩, ⟨.some 111, .none, .pick (.t 107) (.t 110) (.c (.bool false))⟩, ⟨.some 6, .none, .mv (.t 111)⟩]) .ret)))))))))))))
def ljk : List (Nat × Def) := [(248, d248)]
theorem ba_dec (a b : List UInt8) : decide ((⟨a.toArray⟩ : ByteArray) = ⟨b.toArray⟩) = decide (a = b) := by
  by_cases h : a = b
  · subst h; rw [decide_eq_true rfl, decide_eq_true rfl]
  · rw [decide_eq_false h, decide_eq_false]
    intro e
    apply h
    have := congrArg (fun x : ByteArray => x.data.toList) e
    simpa using this
theorem mf1 (n a : List UInt8) (v : PV) : mfind (.string ⟨n.toArray⟩) [(.string ⟨a.toArray⟩, v)] = some (if decide (n = a) = true then some v else none) := by
  simp only [mfind, same1, ba_dec]
  cases decide (n = a) <;> rfl
theorem mf2 (n a b : List UInt8) (v : PV) : mfind (.string ⟨n.toArray⟩) [(.string ⟨a.toArray⟩, v), (.string ⟨b.toArray⟩, v)] = some (if (decide (n = a) || decide (n = b)) = true then some v else none) := by
  simp only [mfind, same1, ba_dec]
  cases decide (n = a) <;> cases decide (n = b) <;> rfl
theorem ms2 (b a : List UInt8) (v : PV) : mset (.string ⟨b.toArray⟩) v [(.string ⟨a.toArray⟩, v)] = some (if b = a then [(.string ⟨a.toArray⟩, v)] else [(.string ⟨a.toArray⟩, v), (.string ⟨b.toArray⟩, v)]) := by
  simp only [mset, same1, ba_dec]
  by_cases h : b = a
  · subst h; simp
  · rw [decide_eq_false h, if_neg h]; rfl
def nmsO (a : Op9) : List (Value × PV) := if a.k = 3 then (if a.d = a.n then [(.string ⟨a.n.toArray⟩, .sc (.int .i64 1))] else [(.string ⟨a.n.toArray⟩, .sc (.int .i64 1)), (.string ⟨a.d.toArray⟩, .sc (.int .i64 1))]) else [(.string ⟨a.n.toArray⟩, .sc (.int .i64 1))]
theorem nmsO_get (a : Op9) (n : List UInt8) : mfind (.string ⟨n.toArray⟩) (nmsO a) = some (if tch a n = true then some (.sc (.int .i64 1)) else none) := by
  unfold nmsO tch
  by_cases h3 : a.k = 3
  · rw [if_pos h3, show (a.k == 3) = true by simp [h3], Bool.true_and]
    by_cases hd : a.d = a.n
    · rw [if_pos hd, mf1, hd, Bool.or_self]
    · rw [if_neg hd, mf2]
  · rw [if_neg h3, show (a.k == 3) = false by simp [h3], Bool.false_and, Bool.or_false, mf1]
theorem wordD_le9 {l : List UInt8} (h : wordD l = true) : l.length ≤ 64 := by
  unfold wordD at h; simp only [Bool.and_eq_true, decide_eq_true_eq] at h; exact h.1.2
theorem do_sm {l x : List Fl} {o : Op9} {e : Int} (h : doS l o = (x, e)) : x.length ≤ 16 ∧ (∀ f ∈ x, f.Sm) ∧ (e ≠ 0 → x = []) := by
  by_cases he : e = 0
  · subst he
    obtain ⟨h1, h2, h3, rfl⟩ := can_of h
    obtain ⟨_, q2, q3⟩ := rightS_iff.1 (done_right h1 h2 h3)
    refine ⟨q3, fun f hf => ?_, fun h => absurd rfl h⟩
    obtain ⟨w1, w2⟩ := q2 f hf
    have := wordD_le9 w1
    exact ⟨by omega, by omega, by omega⟩
  · have hx : x = [] := by
      unfold doS at h
      split at h
      · simp only [Prod.mk.injEq] at h; exact h.1.symm
      · split at h
        · simp only [Prod.mk.injEq] at h; exact h.1.symm
        · split at h
          · simp only [Prod.mk.injEq] at h; exact absurd h.2.symm he
          · simp only [Prod.mk.injEq] at h; exact h.1.symm
    subst hx
    exact ⟨by simp, fun f hf => by simp at hf, fun _ => rfl⟩
section
variable {env : Nat → Option Def} {fr : Fr} {σ σ' σ'' : St} {K : Fr → St → Prop} {Q : X → Fr → St → Prop} {p : PV} {bs : List UInt8}
structure Do9 (env : Nat → Option Def) : Prop where
  a1 : Has law env
  a2 : Has lda env
  b : Has ldb env
  c : Has ldc env
  e : Has ljc env
  f : Has lje env
  j : Has lja env
  d : Has ljd env
  o : Has ljb env
  g : Has ljf env
  g2 : Has ljg env
  h : Has ljh env
theorem Do9.do (H : Do9 env) {l : List Fl} {o : Op9} (hl : l.length ≤ 900) (hsm : ∀ f ∈ l, f.Sm) (ho : o.Sm) : AV env 255 [.agg [.sl (fls l)], opV o] = some (.tu [.agg [.sl (fls (doS l o).1)], .sc (.int .i64 (doS l o).2)]) :=
  a255 H.a1 H.a2 H.b H.c H.e H.f H.j H.d H.o H.g H.g2 H.h hl hsm ho
theorem a248_a1 (H : Do9 env) (L : Has ljj env) (M : Has ljk env) (hal : AV env 254 [] = some (.sc (.bool true))) {l0 l : List Fl} {a0 b0 a b : Op9} (h252 : AV env 252 [.agg [.sl (fls l0)]] = some (.agg [.sl (fls l)])) (h253a : AV env 253 [opV a0] = some (opV a)) (h253b : AV env 253 [opV b0] = some (opV b)) (hl : l.length ≤ 18) (hsm : ∀ f ∈ l, f.Sm) (ha : a.Sm) (hb : b.Sm) (k3 : (a.k == 3) = true) (g1 : mfind (.string ⟨b.n.toArray⟩) (nmsO a) = some (some (.sc (.int .i64 1)))) : AV env 248 [.agg [.sl (fls l0)], opV a0, opV b0] = some (.sc (.bool true)) := by
  have hm0 : mset (.string ⟨a.n.toArray⟩) (.sc (.int .i64 1)) [] = some [(.string ⟨a.n.toArray⟩, .sc (.int .i64 1))] := rfl
  have hm1 : mset (.string ⟨a.d.toArray⟩) (.sc (.int .i64 1)) [(.string ⟨a.n.toArray⟩, .sc (.int .i64 1))] = some (nmsO a) := by
    rw [ms2]; unfold nmsO; rw [if_pos (eq_of_beq k3)]
  unfold opV at h253a h253b
  refine AV_wp (M (248, d248) (by simp [ljk])) rfl ?_
  unfold opV
  (repeat' first
    | refine w_seq ?_ | refine w_rg ?_ | refine wo_nil ?_ | refine g_skU ?_ | refine g_skT ?_ | refine g_skF ?_
    | ((first | apply s_plain | apply s_void | apply s_guard | apply g_goT | apply g_goF); · simp only [go_sem, Nat.reduceEqDiff, Nat.reduceAdd, Nat.reduceLeDiff, h252, h253a, h253b, List.set_cons_succ, hm0, k3, hm1, g1, hal]; (first | done | rfl))
    | ((first | apply g_T | apply g_F | apply g_gT | apply g_gF); · intro q1_; (first | intro q2_ | have q2_ := q1_); simp only [go_sem, Nat.reduceEqDiff, Nat.reduceAdd, Nat.reduceLeDiff, h252, h253a, h253b, List.set_cons_succ, hm0, k3, hm1, g1, hal, q1_, q2_]; (first | done | rfl))
    | (apply w_condX; · simp only [go_sem, Nat.reduceEqDiff, Nat.reduceAdd, Nat.reduceLeDiff, h252, h253a, h253b, List.set_cons_succ, hm0, k3, hm1, g1, hal]; (first | done | rfl)); (first | refine wcd_T ?_ | refine wcd_F ?_)
    | refine w_skip ?_ | refine w_exit ?_ | refine w_ret ?_
    | fail
    )
  exact ⟨by first | exact .inr rfl | exact .inr trivial | exact .inl rfl, by simp only [go_sem, Nat.reduceEqDiff, Nat.reduceAdd, Nat.reduceLeDiff, retOf, resOf, List.set_cons_succ]; first | done | rfl⟩
theorem a248_a2 (H : Do9 env) (L : Has ljj env) (M : Has ljk env) (hal : AV env 254 [] = some (.sc (.bool true))) {l0 l : List Fl} {a0 b0 a b : Op9} (h252 : AV env 252 [.agg [.sl (fls l0)]] = some (.agg [.sl (fls l)])) (h253a : AV env 253 [opV a0] = some (opV a)) (h253b : AV env 253 [opV b0] = some (opV b)) (hl : l.length ≤ 18) (hsm : ∀ f ∈ l, f.Sm) (ha : a.Sm) (hb : b.Sm) (k3 : (a.k == 3) = true) (g1 : mfind (.string ⟨b.n.toArray⟩) (nmsO a) = some none) (q3 : (b.k == 3) = true) (g2 : mfind (.string ⟨b.d.toArray⟩) (nmsO a) = some (some (.sc (.int .i64 1)))) : AV env 248 [.agg [.sl (fls l0)], opV a0, opV b0] = some (.sc (.bool true)) := by
  have hm0 : mset (.string ⟨a.n.toArray⟩) (.sc (.int .i64 1)) [] = some [(.string ⟨a.n.toArray⟩, .sc (.int .i64 1))] := rfl
  have hm1 : mset (.string ⟨a.d.toArray⟩) (.sc (.int .i64 1)) [(.string ⟨a.n.toArray⟩, .sc (.int .i64 1))] = some (nmsO a) := by
    rw [ms2]; unfold nmsO; rw [if_pos (eq_of_beq k3)]
  unfold opV at h253a h253b
  refine AV_wp (M (248, d248) (by simp [ljk])) rfl ?_
  unfold opV
  (repeat' first
    | refine w_seq ?_ | refine w_rg ?_ | refine wo_nil ?_ | refine g_skU ?_ | refine g_skT ?_ | refine g_skF ?_
    | ((first | apply s_plain | apply s_void | apply s_guard | apply g_goT | apply g_goF); · simp only [go_sem, Nat.reduceEqDiff, Nat.reduceAdd, Nat.reduceLeDiff, h252, h253a, h253b, List.set_cons_succ, hm0, k3, hm1, g1, g2, q3, hal]; (first | done | rfl))
    | ((first | apply g_T | apply g_F | apply g_gT | apply g_gF); · intro q1_; (first | intro q2_ | have q2_ := q1_); simp only [go_sem, Nat.reduceEqDiff, Nat.reduceAdd, Nat.reduceLeDiff, h252, h253a, h253b, List.set_cons_succ, hm0, k3, hm1, g1, g2, q3, hal, q1_, q2_]; (first | done | rfl))
    | (apply w_condX; · simp only [go_sem, Nat.reduceEqDiff, Nat.reduceAdd, Nat.reduceLeDiff, h252, h253a, h253b, List.set_cons_succ, hm0, k3, hm1, g1, g2, q3, hal]; (first | done | rfl)); (first | refine wcd_T ?_ | refine wcd_F ?_)
    | refine w_skip ?_ | refine w_exit ?_ | refine w_ret ?_
    | fail
    )
  exact ⟨by first | exact .inr rfl | exact .inr trivial | exact .inl rfl, by simp only [go_sem, Nat.reduceEqDiff, Nat.reduceAdd, Nat.reduceLeDiff, retOf, resOf, List.set_cons_succ]; first | done | rfl⟩
theorem a248_a31 (H : Do9 env) (L : Has ljj env) (M : Has ljk env) (hal : AV env 254 [] = some (.sc (.bool true))) {l0 l : List Fl} {a0 b0 a b : Op9} (h252 : AV env 252 [.agg [.sl (fls l0)]] = some (.agg [.sl (fls l)])) (h253a : AV env 253 [opV a0] = some (opV a)) (h253b : AV env 253 [opV b0] = some (opV b)) (hl : l.length ≤ 18) (hsm : ∀ f ∈ l, f.Sm) (ha : a.Sm) (hb : b.Sm) (k3 : (a.k == 3) = true) (g1 : mfind (.string ⟨b.n.toArray⟩) (nmsO a) = some none) (q3 : (b.k == 3) = true) (g2 : mfind (.string ⟨b.d.toArray⟩) (nmsO a) = some none) {x y : List Fl} {e f : Int} (p1 : doS l a = (x, e)) (p2 : doS l b = (y, f)) (e1 : (e != 0) = true) : AV env 248 [.agg [.sl (fls l0)], opV a0, opV b0] = some (.sc (.bool true)) := by
  have hm0 : mset (.string ⟨a.n.toArray⟩) (.sc (.int .i64 1)) [] = some [(.string ⟨a.n.toArray⟩, .sc (.int .i64 1))] := rfl
  have hm1 : mset (.string ⟨a.d.toArray⟩) (.sc (.int .i64 1)) [(.string ⟨a.n.toArray⟩, .sc (.int .i64 1))] = some (nmsO a) := by
    rw [ms2]; unfold nmsO; rw [if_pos (eq_of_beq k3)]
  have hDa := H.do (l := l) (by omega) hsm ha
  have hDb := H.do (l := l) (by omega) hsm hb
  unfold opV at hDa hDb
  rw [p1] at hDa
  rw [p2] at hDb
  have hx0 : x = [] := (do_sm p1).2.2 (by simpa using e1)
  subst hx0
  have z1 := fls_len ([] : List Fl)
  have z2 := fls_len y
  have z3 : IntKind.i64.wrap (0 * (y.length : Int)) = 0 := by rw [Int.zero_mul]; rfl
  have z4 : ((0 : Int) == 0) = true := rfl
  unfold opV at h253a h253b
  refine AV_wp (M (248, d248) (by simp [ljk])) rfl ?_
  unfold opV
  (repeat' first
    | refine w_seq ?_ | refine w_rg ?_ | refine wo_nil ?_ | refine g_skU ?_ | refine g_skT ?_ | refine g_skF ?_
    | ((first | apply s_plain | apply s_void | apply s_guard | apply g_goT | apply g_goF); · simp only [go_sem, Nat.reduceEqDiff, Nat.reduceAdd, Nat.reduceLeDiff, h252, h253a, h253b, List.set_cons_succ, hm0, k3, hm1, g1, g2, q3, hal, hDa, hDb, e1, z1, z2, z3, z4]; (first | done | rfl))
    | ((first | apply g_T | apply g_F | apply g_gT | apply g_gF); · intro q1_; (first | intro q2_ | have q2_ := q1_); simp only [go_sem, Nat.reduceEqDiff, Nat.reduceAdd, Nat.reduceLeDiff, h252, h253a, h253b, List.set_cons_succ, hm0, k3, hm1, g1, g2, q3, hal, hDa, hDb, e1, z1, z2, z3, z4, q1_, q2_]; (first | done | rfl))
    | (apply w_condX; · simp only [go_sem, Nat.reduceEqDiff, Nat.reduceAdd, Nat.reduceLeDiff, h252, h253a, h253b, List.set_cons_succ, hm0, k3, hm1, g1, g2, q3, hal, hDa, hDb, e1, z1, z2, z3, z4]; (first | done | rfl)); (first | refine wcd_T ?_ | refine wcd_F ?_)
    | refine w_skip ?_ | refine w_exit ?_ | refine w_ret ?_
    | fail
    )
  exact ⟨by first | exact .inr rfl | exact .inr trivial | exact .inl rfl, by simp only [go_sem, Nat.reduceEqDiff, Nat.reduceAdd, Nat.reduceLeDiff, retOf, resOf, List.set_cons_succ]; first | done | rfl⟩
theorem a248_a32 (H : Do9 env) (L : Has ljj env) (M : Has ljk env) (hal : AV env 254 [] = some (.sc (.bool true))) {l0 l : List Fl} {a0 b0 a b : Op9} (h252 : AV env 252 [.agg [.sl (fls l0)]] = some (.agg [.sl (fls l)])) (h253a : AV env 253 [opV a0] = some (opV a)) (h253b : AV env 253 [opV b0] = some (opV b)) (hl : l.length ≤ 18) (hsm : ∀ f ∈ l, f.Sm) (ha : a.Sm) (hb : b.Sm) (k3 : (a.k == 3) = true) (g1 : mfind (.string ⟨b.n.toArray⟩) (nmsO a) = some none) (q3 : (b.k == 3) = true) (g2 : mfind (.string ⟨b.d.toArray⟩) (nmsO a) = some none) {x y : List Fl} {e f : Int} (p1 : doS l a = (x, e)) (p2 : doS l b = (y, f)) (e1 : e = 0) (f1 : (f != 0) = true) : AV env 248 [.agg [.sl (fls l0)], opV a0, opV b0] = some (.sc (.bool true)) := by
  have hm0 : mset (.string ⟨a.n.toArray⟩) (.sc (.int .i64 1)) [] = some [(.string ⟨a.n.toArray⟩, .sc (.int .i64 1))] := rfl
  have hm1 : mset (.string ⟨a.d.toArray⟩) (.sc (.int .i64 1)) [(.string ⟨a.n.toArray⟩, .sc (.int .i64 1))] = some (nmsO a) := by
    rw [ms2]; unfold nmsO; rw [if_pos (eq_of_beq k3)]
  have hDa := H.do (l := l) (by omega) hsm ha
  have hDb := H.do (l := l) (by omega) hsm hb
  unfold opV at hDa hDb
  rw [p1] at hDa
  rw [p2] at hDb
  subst e1
  have hy0 : y = [] := (do_sm p2).2.2 (by simpa using f1)
  subst hy0
  have z1 := fls_len x
  have z2 := fls_len ([] : List Fl)
  have z3 : IntKind.i64.wrap ((x.length : Int) * 0) = 0 := by rw [Int.mul_zero]; rfl
  have z4 : ((0 : Int) == 0) = true := rfl
  unfold opV at h253a h253b
  refine AV_wp (M (248, d248) (by simp [ljk])) rfl ?_
  unfold opV
  (repeat' first
    | refine w_seq ?_ | refine w_rg ?_ | refine wo_nil ?_ | refine g_skU ?_ | refine g_skT ?_ | refine g_skF ?_
    | ((first | apply s_plain | apply s_void | apply s_guard | apply g_goT | apply g_goF); · simp only [go_sem, Nat.reduceEqDiff, Nat.reduceAdd, Nat.reduceLeDiff, h252, h253a, h253b, List.set_cons_succ, hm0, k3, hm1, g1, g2, q3, hal, hDa, hDb, f1, z1, z2, z3, z4, bne_self_eq_false]; (first | done | rfl))
    | ((first | apply g_T | apply g_F | apply g_gT | apply g_gF); · intro q1_; (first | intro q2_ | have q2_ := q1_); simp only [go_sem, Nat.reduceEqDiff, Nat.reduceAdd, Nat.reduceLeDiff, h252, h253a, h253b, List.set_cons_succ, hm0, k3, hm1, g1, g2, q3, hal, hDa, hDb, f1, z1, z2, z3, z4, bne_self_eq_false, q1_, q2_]; (first | done | rfl))
    | (apply w_condX; · simp only [go_sem, Nat.reduceEqDiff, Nat.reduceAdd, Nat.reduceLeDiff, h252, h253a, h253b, List.set_cons_succ, hm0, k3, hm1, g1, g2, q3, hal, hDa, hDb, f1, z1, z2, z3, z4, bne_self_eq_false]; (first | done | rfl)); (first | refine wcd_T ?_ | refine wcd_F ?_)
    | refine w_skip ?_ | refine w_exit ?_ | refine w_ret ?_
    | fail
    )
  exact ⟨by first | exact .inr rfl | exact .inr trivial | exact .inl rfl, by simp only [go_sem, Nat.reduceEqDiff, Nat.reduceAdd, Nat.reduceLeDiff, retOf, resOf, List.set_cons_succ]; first | done | rfl⟩
theorem a248_a33 (H : Do9 env) (L : Has ljj env) (M : Has ljk env) (hal : AV env 254 [] = some (.sc (.bool true))) {l0 l : List Fl} {a0 b0 a b : Op9} (h252 : AV env 252 [.agg [.sl (fls l0)]] = some (.agg [.sl (fls l)])) (h253a : AV env 253 [opV a0] = some (opV a)) (h253b : AV env 253 [opV b0] = some (opV b)) (hl : l.length ≤ 18) (hsm : ∀ f ∈ l, f.Sm) (ha : a.Sm) (hb : b.Sm) (k3 : (a.k == 3) = true) (g1 : mfind (.string ⟨b.n.toArray⟩) (nmsO a) = some none) (q3 : (b.k == 3) = true) (g2 : mfind (.string ⟨b.d.toArray⟩) (nmsO a) = some none) {x y r q : List Fl} {e f g h : Int} (p1 : doS l a = (x, e)) (p2 : doS l b = (y, f)) (e1 : e = 0) (f1 : f = 0) (p3 : doS x b = (r, g)) (p4 : doS y a = (q, h)) (t1 : (g == 13) = true) : AV env 248 [.agg [.sl (fls l0)], opV a0, opV b0] = some (.sc (.bool true)) := by
  have hm0 : mset (.string ⟨a.n.toArray⟩) (.sc (.int .i64 1)) [] = some [(.string ⟨a.n.toArray⟩, .sc (.int .i64 1))] := rfl
  have hm1 : mset (.string ⟨a.d.toArray⟩) (.sc (.int .i64 1)) [(.string ⟨a.n.toArray⟩, .sc (.int .i64 1))] = some (nmsO a) := by
    rw [ms2]; unfold nmsO; rw [if_pos (eq_of_beq k3)]
  have hDa := H.do (l := l) (by omega) hsm ha
  have hDb := H.do (l := l) (by omega) hsm hb
  unfold opV at hDa hDb
  rw [p1] at hDa
  rw [p2] at hDb
  subst e1 f1
  have hx := do_sm p1
  have hy := do_sm p2
  have hEb := H.do (l := x) (by omega) hx.2.1 hb
  have hEa := H.do (l := y) (by omega) hy.2.1 ha
  unfold opV at hEa hEb
  rw [p3] at hEb
  rw [p4] at hEa
  unfold opV at h253a h253b
  refine AV_wp (M (248, d248) (by simp [ljk])) rfl ?_
  unfold opV
  (repeat' first
    | refine w_seq ?_ | refine w_rg ?_ | refine wo_nil ?_ | refine g_skU ?_ | refine g_skT ?_ | refine g_skF ?_
    | ((first | apply s_plain | apply s_void | apply s_guard | apply g_goT | apply g_goF); · simp only [go_sem, Nat.reduceEqDiff, Nat.reduceAdd, Nat.reduceLeDiff, h252, h253a, h253b, List.set_cons_succ, hm0, k3, hm1, g1, g2, q3, hal, hDa, hDb, hEa, hEb, t1, bne_self_eq_false]; (first | done | rfl))
    | ((first | apply g_T | apply g_F | apply g_gT | apply g_gF); · intro q1_; (first | intro q2_ | have q2_ := q1_); simp only [go_sem, Nat.reduceEqDiff, Nat.reduceAdd, Nat.reduceLeDiff, h252, h253a, h253b, List.set_cons_succ, hm0, k3, hm1, g1, g2, q3, hal, hDa, hDb, hEa, hEb, t1, bne_self_eq_false, q1_, q2_]; (first | done | rfl))
    | (apply w_condX; · simp only [go_sem, Nat.reduceEqDiff, Nat.reduceAdd, Nat.reduceLeDiff, h252, h253a, h253b, List.set_cons_succ, hm0, k3, hm1, g1, g2, q3, hal, hDa, hDb, hEa, hEb, t1, bne_self_eq_false]; (first | done | rfl)); (first | refine wcd_T ?_ | refine wcd_F ?_)
    | refine w_skip ?_ | refine w_exit ?_ | refine w_ret ?_
    | fail
    )
  exact ⟨by first | exact .inr rfl | exact .inr trivial | exact .inl rfl, by simp only [go_sem, Nat.reduceEqDiff, Nat.reduceAdd, Nat.reduceLeDiff, retOf, resOf, List.set_cons_succ]; first | done | rfl⟩
theorem a248_a34 (H : Do9 env) (L : Has ljj env) (M : Has ljk env) (hal : AV env 254 [] = some (.sc (.bool true))) {l0 l : List Fl} {a0 b0 a b : Op9} (h252 : AV env 252 [.agg [.sl (fls l0)]] = some (.agg [.sl (fls l)])) (h253a : AV env 253 [opV a0] = some (opV a)) (h253b : AV env 253 [opV b0] = some (opV b)) (hl : l.length ≤ 18) (hsm : ∀ f ∈ l, f.Sm) (ha : a.Sm) (hb : b.Sm) (k3 : (a.k == 3) = true) (g1 : mfind (.string ⟨b.n.toArray⟩) (nmsO a) = some none) (q3 : (b.k == 3) = true) (g2 : mfind (.string ⟨b.d.toArray⟩) (nmsO a) = some none) {x y r q : List Fl} {e f g h : Int} (p1 : doS l a = (x, e)) (p2 : doS l b = (y, f)) (e1 : e = 0) (f1 : f = 0) (p3 : doS x b = (r, g)) (p4 : doS y a = (q, h)) (t1 : (g == 13) = false) (t2 : (h == 13) = true) : AV env 248 [.agg [.sl (fls l0)], opV a0, opV b0] = some (.sc (.bool true)) := by
  have hm0 : mset (.string ⟨a.n.toArray⟩) (.sc (.int .i64 1)) [] = some [(.string ⟨a.n.toArray⟩, .sc (.int .i64 1))] := rfl
  have hm1 : mset (.string ⟨a.d.toArray⟩) (.sc (.int .i64 1)) [(.string ⟨a.n.toArray⟩, .sc (.int .i64 1))] = some (nmsO a) := by
    rw [ms2]; unfold nmsO; rw [if_pos (eq_of_beq k3)]
  have hDa := H.do (l := l) (by omega) hsm ha
  have hDb := H.do (l := l) (by omega) hsm hb
  unfold opV at hDa hDb
  rw [p1] at hDa
  rw [p2] at hDb
  subst e1 f1
  have hx := do_sm p1
  have hy := do_sm p2
  have hEb := H.do (l := x) (by omega) hx.2.1 hb
  have hEa := H.do (l := y) (by omega) hy.2.1 ha
  unfold opV at hEa hEb
  rw [p3] at hEb
  rw [p4] at hEa
  unfold opV at h253a h253b
  refine AV_wp (M (248, d248) (by simp [ljk])) rfl ?_
  unfold opV
  (repeat' first
    | refine w_seq ?_ | refine w_rg ?_ | refine wo_nil ?_ | refine g_skU ?_ | refine g_skT ?_ | refine g_skF ?_
    | ((first | apply s_plain | apply s_void | apply s_guard | apply g_goT | apply g_goF); · simp only [go_sem, Nat.reduceEqDiff, Nat.reduceAdd, Nat.reduceLeDiff, h252, h253a, h253b, List.set_cons_succ, hm0, k3, hm1, g1, g2, q3, hal, hDa, hDb, hEa, hEb, t1, t2, bne_self_eq_false]; (first | done | rfl))
    | ((first | apply g_T | apply g_F | apply g_gT | apply g_gF); · intro q1_; (first | intro q2_ | have q2_ := q1_); simp only [go_sem, Nat.reduceEqDiff, Nat.reduceAdd, Nat.reduceLeDiff, h252, h253a, h253b, List.set_cons_succ, hm0, k3, hm1, g1, g2, q3, hal, hDa, hDb, hEa, hEb, t1, t2, bne_self_eq_false, q1_, q2_]; (first | done | rfl))
    | (apply w_condX; · simp only [go_sem, Nat.reduceEqDiff, Nat.reduceAdd, Nat.reduceLeDiff, h252, h253a, h253b, List.set_cons_succ, hm0, k3, hm1, g1, g2, q3, hal, hDa, hDb, hEa, hEb, t1, t2, bne_self_eq_false]; (first | done | rfl)); (first | refine wcd_T ?_ | refine wcd_F ?_)
    | refine w_skip ?_ | refine w_exit ?_ | refine w_ret ?_
    | fail
    )
  exact ⟨by first | exact .inr rfl | exact .inr trivial | exact .inl rfl, by simp only [go_sem, Nat.reduceEqDiff, Nat.reduceAdd, Nat.reduceLeDiff, retOf, resOf, List.set_cons_succ]; first | done | rfl⟩
theorem a248_a35 (H : Do9 env) (L : Has ljj env) (M : Has ljk env) (hal : AV env 254 [] = some (.sc (.bool true))) {l0 l : List Fl} {a0 b0 a b : Op9} (h252 : AV env 252 [.agg [.sl (fls l0)]] = some (.agg [.sl (fls l)])) (h253a : AV env 253 [opV a0] = some (opV a)) (h253b : AV env 253 [opV b0] = some (opV b)) (hl : l.length ≤ 18) (hsm : ∀ f ∈ l, f.Sm) (ha : a.Sm) (hb : b.Sm) (k3 : (a.k == 3) = true) (g1 : mfind (.string ⟨b.n.toArray⟩) (nmsO a) = some none) (q3 : (b.k == 3) = true) (g2 : mfind (.string ⟨b.d.toArray⟩) (nmsO a) = some none) {x y r q : List Fl} {e f g h : Int} (p1 : doS l a = (x, e)) (p2 : doS l b = (y, f)) (e1 : e = 0) (f1 : f = 0) (p3 : doS x b = (r, g)) (p4 : doS y a = (q, h)) (t1 : (g == 13) = false) (t2 : (h == 13) = false) (hap : apart9 a b = true) : AV env 248 [.agg [.sl (fls l0)], opV a0, opV b0] = some (.sc (.bool true)) := by
  have hm0 : mset (.string ⟨a.n.toArray⟩) (.sc (.int .i64 1)) [] = some [(.string ⟨a.n.toArray⟩, .sc (.int .i64 1))] := rfl
  have hm1 : mset (.string ⟨a.d.toArray⟩) (.sc (.int .i64 1)) [(.string ⟨a.n.toArray⟩, .sc (.int .i64 1))] = some (nmsO a) := by
    rw [ms2]; unfold nmsO; rw [if_pos (eq_of_beq k3)]
  have hDa := H.do (l := l) (by omega) hsm ha
  have hDb := H.do (l := l) (by omega) hsm hb
  unfold opV at hDa hDb
  rw [p1] at hDa
  rw [p2] at hDb
  subst e1 f1
  have hx := do_sm p1
  have hy := do_sm p2
  have hEb := H.do (l := x) (by omega) hx.2.1 hb
  have hEa := H.do (l := y) (by omega) hy.2.1 ha
  unfold opV at hEa hEb
  rw [p3] at hEb
  rw [p4] at hEa
  obtain ⟨w1, w2, w3⟩ := do_turns p1 p2 hap p3 p4 (by simpa using t1) (by simpa using t2)
  subst w1 w2 w3
  have hrl := do_sm p3
  have hlk := a256 L (a := r) (b := r) (by omega)
  rw [decide_eq_true rfl] at hlk
  unfold opV at h253a h253b
  refine AV_wp (M (248, d248) (by simp [ljk])) rfl ?_
  unfold opV
  (repeat' first
    | refine w_seq ?_ | refine w_rg ?_ | refine wo_nil ?_ | refine g_skU ?_ | refine g_skT ?_ | refine g_skF ?_
    | ((first | apply s_plain | apply s_void | apply s_guard | apply g_goT | apply g_goF); · simp only [go_sem, Nat.reduceEqDiff, Nat.reduceAdd, Nat.reduceLeDiff, h252, h253a, h253b, List.set_cons_succ, hm0, k3, hm1, g1, g2, q3, hal, hDa, hDb, hEa, hEb, t1, t2, hlk, bne_self_eq_false]; (first | done | rfl))
    | ((first | apply g_T | apply g_F | apply g_gT | apply g_gF); · intro q1_; (first | intro q2_ | have q2_ := q1_); simp only [go_sem, Nat.reduceEqDiff, Nat.reduceAdd, Nat.reduceLeDiff, h252, h253a, h253b, List.set_cons_succ, hm0, k3, hm1, g1, g2, q3, hal, hDa, hDb, hEa, hEb, t1, t2, hlk, bne_self_eq_false, q1_, q2_]; (first | done | rfl))
    | (apply w_condX; · simp only [go_sem, Nat.reduceEqDiff, Nat.reduceAdd, Nat.reduceLeDiff, h252, h253a, h253b, List.set_cons_succ, hm0, k3, hm1, g1, g2, q3, hal, hDa, hDb, hEa, hEb, t1, t2, hlk, bne_self_eq_false]; (first | done | rfl)); (first | refine wcd_T ?_ | refine wcd_F ?_)
    | refine w_skip ?_ | refine w_exit ?_ | refine w_ret ?_
    | fail
    )
  exact ⟨by first | exact .inr rfl | exact .inr trivial | exact .inl rfl, by simp only [go_sem, Nat.reduceEqDiff, Nat.reduceAdd, Nat.reduceLeDiff, retOf, resOf, List.set_cons_succ]; first | done | rfl⟩
theorem a248_a41 (H : Do9 env) (L : Has ljj env) (M : Has ljk env) (hal : AV env 254 [] = some (.sc (.bool true))) {l0 l : List Fl} {a0 b0 a b : Op9} (h252 : AV env 252 [.agg [.sl (fls l0)]] = some (.agg [.sl (fls l)])) (h253a : AV env 253 [opV a0] = some (opV a)) (h253b : AV env 253 [opV b0] = some (opV b)) (hl : l.length ≤ 18) (hsm : ∀ f ∈ l, f.Sm) (ha : a.Sm) (hb : b.Sm) (k3 : (a.k == 3) = true) (g1 : mfind (.string ⟨b.n.toArray⟩) (nmsO a) = some none) (q3 : (b.k == 3) = false) {x y : List Fl} {e f : Int} (p1 : doS l a = (x, e)) (p2 : doS l b = (y, f)) (e1 : (e != 0) = true) : AV env 248 [.agg [.sl (fls l0)], opV a0, opV b0] = some (.sc (.bool true)) := by
  have hm0 : mset (.string ⟨a.n.toArray⟩) (.sc (.int .i64 1)) [] = some [(.string ⟨a.n.toArray⟩, .sc (.int .i64 1))] := rfl
  have hm1 : mset (.string ⟨a.d.toArray⟩) (.sc (.int .i64 1)) [(.string ⟨a.n.toArray⟩, .sc (.int .i64 1))] = some (nmsO a) := by
    rw [ms2]; unfold nmsO; rw [if_pos (eq_of_beq k3)]
  have hDa := H.do (l := l) (by omega) hsm ha
  have hDb := H.do (l := l) (by omega) hsm hb
  unfold opV at hDa hDb
  rw [p1] at hDa
  rw [p2] at hDb
  have hx0 : x = [] := (do_sm p1).2.2 (by simpa using e1)
  subst hx0
  have z1 := fls_len ([] : List Fl)
  have z2 := fls_len y
  have z3 : IntKind.i64.wrap (0 * (y.length : Int)) = 0 := by rw [Int.zero_mul]; rfl
  have z4 : ((0 : Int) == 0) = true := rfl
  unfold opV at h253a h253b
  refine AV_wp (M (248, d248) (by simp [ljk])) rfl ?_
  unfold opV
  (repeat' first
    | refine w_seq ?_ | refine w_rg ?_ | refine wo_nil ?_ | refine g_skU ?_ | refine g_skT ?_ | refine g_skF ?_
    | ((first | apply s_plain | apply s_void | apply s_guard | apply g_goT | apply g_goF); · simp only [go_sem, Nat.reduceEqDiff, Nat.reduceAdd, Nat.reduceLeDiff, h252, h253a, h253b, List.set_cons_succ, hm0, k3, hm1, g1, q3, hal, hDa, hDb, e1, z1, z2, z3, z4]; (first | done | rfl))
    | ((first | apply g_T | apply g_F | apply g_gT | apply g_gF); · intro q1_; (first | intro q2_ | have q2_ := q1_); simp only [go_sem, Nat.reduceEqDiff, Nat.reduceAdd, Nat.reduceLeDiff, h252, h253a, h253b, List.set_cons_succ, hm0, k3, hm1, g1, q3, hal, hDa, hDb, e1, z1, z2, z3, z4, q1_, q2_]; (first | done | rfl))
    | (apply w_condX; · simp only [go_sem, Nat.reduceEqDiff, Nat.reduceAdd, Nat.reduceLeDiff, h252, h253a, h253b, List.set_cons_succ, hm0, k3, hm1, g1, q3, hal, hDa, hDb, e1, z1, z2, z3, z4]; (first | done | rfl)); (first | refine wcd_T ?_ | refine wcd_F ?_)
    | refine w_skip ?_ | refine w_exit ?_ | refine w_ret ?_
    | fail
    )
  exact ⟨by first | exact .inr rfl | exact .inr trivial | exact .inl rfl, by simp only [go_sem, Nat.reduceEqDiff, Nat.reduceAdd, Nat.reduceLeDiff, retOf, resOf, List.set_cons_succ]; first | done | rfl⟩
theorem a248_a42 (H : Do9 env) (L : Has ljj env) (M : Has ljk env) (hal : AV env 254 [] = some (.sc (.bool true))) {l0 l : List Fl} {a0 b0 a b : Op9} (h252 : AV env 252 [.agg [.sl (fls l0)]] = some (.agg [.sl (fls l)])) (h253a : AV env 253 [opV a0] = some (opV a)) (h253b : AV env 253 [opV b0] = some (opV b)) (hl : l.length ≤ 18) (hsm : ∀ f ∈ l, f.Sm) (ha : a.Sm) (hb : b.Sm) (k3 : (a.k == 3) = true) (g1 : mfind (.string ⟨b.n.toArray⟩) (nmsO a) = some none) (q3 : (b.k == 3) = false) {x y : List Fl} {e f : Int} (p1 : doS l a = (x, e)) (p2 : doS l b = (y, f)) (e1 : e = 0) (f1 : (f != 0) = true) : AV env 248 [.agg [.sl (fls l0)], opV a0, opV b0] = some (.sc (.bool true)) := by
  have hm0 : mset (.string ⟨a.n.toArray⟩) (.sc (.int .i64 1)) [] = some [(.string ⟨a.n.toArray⟩, .sc (.int .i64 1))] := rfl
  have hm1 : mset (.string ⟨a.d.toArray⟩) (.sc (.int .i64 1)) [(.string ⟨a.n.toArray⟩, .sc (.int .i64 1))] = some (nmsO a) := by
    rw [ms2]; unfold nmsO; rw [if_pos (eq_of_beq k3)]
  have hDa := H.do (l := l) (by omega) hsm ha
  have hDb := H.do (l := l) (by omega) hsm hb
  unfold opV at hDa hDb
  rw [p1] at hDa
  rw [p2] at hDb
  subst e1
  have hy0 : y = [] := (do_sm p2).2.2 (by simpa using f1)
  subst hy0
  have z1 := fls_len x
  have z2 := fls_len ([] : List Fl)
  have z3 : IntKind.i64.wrap ((x.length : Int) * 0) = 0 := by rw [Int.mul_zero]; rfl
  have z4 : ((0 : Int) == 0) = true := rfl
  unfold opV at h253a h253b
  refine AV_wp (M (248, d248) (by simp [ljk])) rfl ?_
  unfold opV
  (repeat' first
    | refine w_seq ?_ | refine w_rg ?_ | refine wo_nil ?_ | refine g_skU ?_ | refine g_skT ?_ | refine g_skF ?_
    | ((first | apply s_plain | apply s_void | apply s_guard | apply g_goT | apply g_goF); · simp only [go_sem, Nat.reduceEqDiff, Nat.reduceAdd, Nat.reduceLeDiff, h252, h253a, h253b, List.set_cons_succ, hm0, k3, hm1, g1, q3, hal, hDa, hDb, f1, z1, z2, z3, z4, bne_self_eq_false]; (first | done | rfl))
    | ((first | apply g_T | apply g_F | apply g_gT | apply g_gF); · intro q1_; (first | intro q2_ | have q2_ := q1_); simp only [go_sem, Nat.reduceEqDiff, Nat.reduceAdd, Nat.reduceLeDiff, h252, h253a, h253b, List.set_cons_succ, hm0, k3, hm1, g1, q3, hal, hDa, hDb, f1, z1, z2, z3, z4, bne_self_eq_false, q1_, q2_]; (first | done | rfl))
    | (apply w_condX; · simp only [go_sem, Nat.reduceEqDiff, Nat.reduceAdd, Nat.reduceLeDiff, h252, h253a, h253b, List.set_cons_succ, hm0, k3, hm1, g1, q3, hal, hDa, hDb, f1, z1, z2, z3, z4, bne_self_eq_false]; (first | done | rfl)); (first | refine wcd_T ?_ | refine wcd_F ?_)
    | refine w_skip ?_ | refine w_exit ?_ | refine w_ret ?_
    | fail
    )
  exact ⟨by first | exact .inr rfl | exact .inr trivial | exact .inl rfl, by simp only [go_sem, Nat.reduceEqDiff, Nat.reduceAdd, Nat.reduceLeDiff, retOf, resOf, List.set_cons_succ]; first | done | rfl⟩
theorem a248_a43 (H : Do9 env) (L : Has ljj env) (M : Has ljk env) (hal : AV env 254 [] = some (.sc (.bool true))) {l0 l : List Fl} {a0 b0 a b : Op9} (h252 : AV env 252 [.agg [.sl (fls l0)]] = some (.agg [.sl (fls l)])) (h253a : AV env 253 [opV a0] = some (opV a)) (h253b : AV env 253 [opV b0] = some (opV b)) (hl : l.length ≤ 18) (hsm : ∀ f ∈ l, f.Sm) (ha : a.Sm) (hb : b.Sm) (k3 : (a.k == 3) = true) (g1 : mfind (.string ⟨b.n.toArray⟩) (nmsO a) = some none) (q3 : (b.k == 3) = false) {x y r q : List Fl} {e f g h : Int} (p1 : doS l a = (x, e)) (p2 : doS l b = (y, f)) (e1 : e = 0) (f1 : f = 0) (p3 : doS x b = (r, g)) (p4 : doS y a = (q, h)) (t1 : (g == 13) = true) : AV env 248 [.agg [.sl (fls l0)], opV a0, opV b0] = some (.sc (.bool true)) := by
  have hm0 : mset (.string ⟨a.n.toArray⟩) (.sc (.int .i64 1)) [] = some [(.string ⟨a.n.toArray⟩, .sc (.int .i64 1))] := rfl
  have hm1 : mset (.string ⟨a.d.toArray⟩) (.sc (.int .i64 1)) [(.string ⟨a.n.toArray⟩, .sc (.int .i64 1))] = some (nmsO a) := by
    rw [ms2]; unfold nmsO; rw [if_pos (eq_of_beq k3)]
  have hDa := H.do (l := l) (by omega) hsm ha
  have hDb := H.do (l := l) (by omega) hsm hb
  unfold opV at hDa hDb
  rw [p1] at hDa
  rw [p2] at hDb
  subst e1 f1
  have hx := do_sm p1
  have hy := do_sm p2
  have hEb := H.do (l := x) (by omega) hx.2.1 hb
  have hEa := H.do (l := y) (by omega) hy.2.1 ha
  unfold opV at hEa hEb
  rw [p3] at hEb
  rw [p4] at hEa
  unfold opV at h253a h253b
  refine AV_wp (M (248, d248) (by simp [ljk])) rfl ?_
  unfold opV
  (repeat' first
    | refine w_seq ?_ | refine w_rg ?_ | refine wo_nil ?_ | refine g_skU ?_ | refine g_skT ?_ | refine g_skF ?_
    | ((first | apply s_plain | apply s_void | apply s_guard | apply g_goT | apply g_goF); · simp only [go_sem, Nat.reduceEqDiff, Nat.reduceAdd, Nat.reduceLeDiff, h252, h253a, h253b, List.set_cons_succ, hm0, k3, hm1, g1, q3, hal, hDa, hDb, hEa, hEb, t1, bne_self_eq_false]; (first | done | rfl))
    | ((first | apply g_T | apply g_F | apply g_gT | apply g_gF); · intro q1_; (first | intro q2_ | have q2_ := q1_); simp only [go_sem, Nat.reduceEqDiff, Nat.reduceAdd, Nat.reduceLeDiff, h252, h253a, h253b, List.set_cons_succ, hm0, k3, hm1, g1, q3, hal, hDa, hDb, hEa, hEb, t1, bne_self_eq_false, q1_, q2_]; (first | done | rfl))
    | (apply w_condX; · simp only [go_sem, Nat.reduceEqDiff, Nat.reduceAdd, Nat.reduceLeDiff, h252, h253a, h253b, List.set_cons_succ, hm0, k3, hm1, g1, q3, hal, hDa, hDb, hEa, hEb, t1, bne_self_eq_false]; (first | done | rfl)); (first | refine wcd_T ?_ | refine wcd_F ?_)
    | refine w_skip ?_ | refine w_exit ?_ | refine w_ret ?_
    | fail
    )
  exact ⟨by first | exact .inr rfl | exact .inr trivial | exact .inl rfl, by simp only [go_sem, Nat.reduceEqDiff, Nat.reduceAdd, Nat.reduceLeDiff, retOf, resOf, List.set_cons_succ]; first | done | rfl⟩
theorem a248_a44 (H : Do9 env) (L : Has ljj env) (M : Has ljk env) (hal : AV env 254 [] = some (.sc (.bool true))) {l0 l : List Fl} {a0 b0 a b : Op9} (h252 : AV env 252 [.agg [.sl (fls l0)]] = some (.agg [.sl (fls l)])) (h253a : AV env 253 [opV a0] = some (opV a)) (h253b : AV env 253 [opV b0] = some (opV b)) (hl : l.length ≤ 18) (hsm : ∀ f ∈ l, f.Sm) (ha : a.Sm) (hb : b.Sm) (k3 : (a.k == 3) = true) (g1 : mfind (.string ⟨b.n.toArray⟩) (nmsO a) = some none) (q3 : (b.k == 3) = false) {x y r q : List Fl} {e f g h : Int} (p1 : doS l a = (x, e)) (p2 : doS l b = (y, f)) (e1 : e = 0) (f1 : f = 0) (p3 : doS x b = (r, g)) (p4 : doS y a = (q, h)) (t1 : (g == 13) = false) (t2 : (h == 13) = true) : AV env 248 [.agg [.sl (fls l0)], opV a0, opV b0] = some (.sc (.bool true)) := by
  have hm0 : mset (.string ⟨a.n.toArray⟩) (.sc (.int .i64 1)) [] = some [(.string ⟨a.n.toArray⟩, .sc (.int .i64 1))] := rfl
  have hm1 : mset (.string ⟨a.d.toArray⟩) (.sc (.int .i64 1)) [(.string ⟨a.n.toArray⟩, .sc (.int .i64 1))] = some (nmsO a) := by
    rw [ms2]; unfold nmsO; rw [if_pos (eq_of_beq k3)]
  have hDa := H.do (l := l) (by omega) hsm ha
  have hDb := H.do (l := l) (by omega) hsm hb
  unfold opV at hDa hDb
  rw [p1] at hDa
  rw [p2] at hDb
  subst e1 f1
  have hx := do_sm p1
  have hy := do_sm p2
  have hEb := H.do (l := x) (by omega) hx.2.1 hb
  have hEa := H.do (l := y) (by omega) hy.2.1 ha
  unfold opV at hEa hEb
  rw [p3] at hEb
  rw [p4] at hEa
  unfold opV at h253a h253b
  refine AV_wp (M (248, d248) (by simp [ljk])) rfl ?_
  unfold opV
  (repeat' first
    | refine w_seq ?_ | refine w_rg ?_ | refine wo_nil ?_ | refine g_skU ?_ | refine g_skT ?_ | refine g_skF ?_
    | ((first | apply s_plain | apply s_void | apply s_guard | apply g_goT | apply g_goF); · simp only [go_sem, Nat.reduceEqDiff, Nat.reduceAdd, Nat.reduceLeDiff, h252, h253a, h253b, List.set_cons_succ, hm0, k3, hm1, g1, q3, hal, hDa, hDb, hEa, hEb, t1, t2, bne_self_eq_false]; (first | done | rfl))
    | ((first | apply g_T | apply g_F | apply g_gT | apply g_gF); · intro q1_; (first | intro q2_ | have q2_ := q1_); simp only [go_sem, Nat.reduceEqDiff, Nat.reduceAdd, Nat.reduceLeDiff, h252, h253a, h253b, List.set_cons_succ, hm0, k3, hm1, g1, q3, hal, hDa, hDb, hEa, hEb, t1, t2, bne_self_eq_false, q1_, q2_]; (first | done | rfl))
    | (apply w_condX; · simp only [go_sem, Nat.reduceEqDiff, Nat.reduceAdd, Nat.reduceLeDiff, h252, h253a, h253b, List.set_cons_succ, hm0, k3, hm1, g1, q3, hal, hDa, hDb, hEa, hEb, t1, t2, bne_self_eq_false]; (first | done | rfl)); (first | refine wcd_T ?_ | refine wcd_F ?_)
    | refine w_skip ?_ | refine w_exit ?_ | refine w_ret ?_
    | fail
    )
  exact ⟨by first | exact .inr rfl | exact .inr trivial | exact .inl rfl, by simp only [go_sem, Nat.reduceEqDiff, Nat.reduceAdd, Nat.reduceLeDiff, retOf, resOf, List.set_cons_succ]; first | done | rfl⟩
theorem a248_a45 (H : Do9 env) (L : Has ljj env) (M : Has ljk env) (hal : AV env 254 [] = some (.sc (.bool true))) {l0 l : List Fl} {a0 b0 a b : Op9} (h252 : AV env 252 [.agg [.sl (fls l0)]] = some (.agg [.sl (fls l)])) (h253a : AV env 253 [opV a0] = some (opV a)) (h253b : AV env 253 [opV b0] = some (opV b)) (hl : l.length ≤ 18) (hsm : ∀ f ∈ l, f.Sm) (ha : a.Sm) (hb : b.Sm) (k3 : (a.k == 3) = true) (g1 : mfind (.string ⟨b.n.toArray⟩) (nmsO a) = some none) (q3 : (b.k == 3) = false) {x y r q : List Fl} {e f g h : Int} (p1 : doS l a = (x, e)) (p2 : doS l b = (y, f)) (e1 : e = 0) (f1 : f = 0) (p3 : doS x b = (r, g)) (p4 : doS y a = (q, h)) (t1 : (g == 13) = false) (t2 : (h == 13) = false) (hap : apart9 a b = true) : AV env 248 [.agg [.sl (fls l0)], opV a0, opV b0] = some (.sc (.bool true)) := by
  have hm0 : mset (.string ⟨a.n.toArray⟩) (.sc (.int .i64 1)) [] = some [(.string ⟨a.n.toArray⟩, .sc (.int .i64 1))] := rfl
  have hm1 : mset (.string ⟨a.d.toArray⟩) (.sc (.int .i64 1)) [(.string ⟨a.n.toArray⟩, .sc (.int .i64 1))] = some (nmsO a) := by
    rw [ms2]; unfold nmsO; rw [if_pos (eq_of_beq k3)]
  have hDa := H.do (l := l) (by omega) hsm ha
  have hDb := H.do (l := l) (by omega) hsm hb
  unfold opV at hDa hDb
  rw [p1] at hDa
  rw [p2] at hDb
  subst e1 f1
  have hx := do_sm p1
  have hy := do_sm p2
  have hEb := H.do (l := x) (by omega) hx.2.1 hb
  have hEa := H.do (l := y) (by omega) hy.2.1 ha
  unfold opV at hEa hEb
  rw [p3] at hEb
  rw [p4] at hEa
  obtain ⟨w1, w2, w3⟩ := do_turns p1 p2 hap p3 p4 (by simpa using t1) (by simpa using t2)
  subst w1 w2 w3
  have hrl := do_sm p3
  have hlk := a256 L (a := r) (b := r) (by omega)
  rw [decide_eq_true rfl] at hlk
  unfold opV at h253a h253b
  refine AV_wp (M (248, d248) (by simp [ljk])) rfl ?_
  unfold opV
  (repeat' first
    | refine w_seq ?_ | refine w_rg ?_ | refine wo_nil ?_ | refine g_skU ?_ | refine g_skT ?_ | refine g_skF ?_
    | ((first | apply s_plain | apply s_void | apply s_guard | apply g_goT | apply g_goF); · simp only [go_sem, Nat.reduceEqDiff, Nat.reduceAdd, Nat.reduceLeDiff, h252, h253a, h253b, List.set_cons_succ, hm0, k3, hm1, g1, q3, hal, hDa, hDb, hEa, hEb, t1, t2, hlk, bne_self_eq_false]; (first | done | rfl))
    | ((first | apply g_T | apply g_F | apply g_gT | apply g_gF); · intro q1_; (first | intro q2_ | have q2_ := q1_); simp only [go_sem, Nat.reduceEqDiff, Nat.reduceAdd, Nat.reduceLeDiff, h252, h253a, h253b, List.set_cons_succ, hm0, k3, hm1, g1, q3, hal, hDa, hDb, hEa, hEb, t1, t2, hlk, bne_self_eq_false, q1_, q2_]; (first | done | rfl))
    | (apply w_condX; · simp only [go_sem, Nat.reduceEqDiff, Nat.reduceAdd, Nat.reduceLeDiff, h252, h253a, h253b, List.set_cons_succ, hm0, k3, hm1, g1, q3, hal, hDa, hDb, hEa, hEb, t1, t2, hlk, bne_self_eq_false]; (first | done | rfl)); (first | refine wcd_T ?_ | refine wcd_F ?_)
    | refine w_skip ?_ | refine w_exit ?_ | refine w_ret ?_
    | fail
    )
  exact ⟨by first | exact .inr rfl | exact .inr trivial | exact .inl rfl, by simp only [go_sem, Nat.reduceEqDiff, Nat.reduceAdd, Nat.reduceLeDiff, retOf, resOf, List.set_cons_succ]; first | done | rfl⟩
theorem a248_b1 (H : Do9 env) (L : Has ljj env) (M : Has ljk env) (hal : AV env 254 [] = some (.sc (.bool true))) {l0 l : List Fl} {a0 b0 a b : Op9} (h252 : AV env 252 [.agg [.sl (fls l0)]] = some (.agg [.sl (fls l)])) (h253a : AV env 253 [opV a0] = some (opV a)) (h253b : AV env 253 [opV b0] = some (opV b)) (hl : l.length ≤ 18) (hsm : ∀ f ∈ l, f.Sm) (ha : a.Sm) (hb : b.Sm) (k3 : (a.k == 3) = false) (g1 : mfind (.string ⟨b.n.toArray⟩) (nmsO a) = some (some (.sc (.int .i64 1)))) : AV env 248 [.agg [.sl (fls l0)], opV a0, opV b0] = some (.sc (.bool true)) := by
  have hm0 : mset (.string ⟨a.n.toArray⟩) (.sc (.int .i64 1)) [] = some [(.string ⟨a.n.toArray⟩, .sc (.int .i64 1))] := rfl
  have hnm : nmsO a = [(.string ⟨a.n.toArray⟩, .sc (.int .i64 1))] := by
    unfold nmsO; rw [if_neg (by simpa using k3)]
  rw [hnm] at g1
  unfold opV at h253a h253b
  refine AV_wp (M (248, d248) (by simp [ljk])) rfl ?_
  unfold opV
  (repeat' first
    | refine w_seq ?_ | refine w_rg ?_ | refine wo_nil ?_ | refine g_skU ?_ | refine g_skT ?_ | refine g_skF ?_
    | ((first | apply s_plain | apply s_void | apply s_guard | apply g_goT | apply g_goF); · simp only [go_sem, Nat.reduceEqDiff, Nat.reduceAdd, Nat.reduceLeDiff, h252, h253a, h253b, List.set_cons_succ, hm0, k3, g1, hal]; (first | done | rfl))
    | ((first | apply g_T | apply g_F | apply g_gT | apply g_gF); · intro q1_; (first | intro q2_ | have q2_ := q1_); simp only [go_sem, Nat.reduceEqDiff, Nat.reduceAdd, Nat.reduceLeDiff, h252, h253a, h253b, List.set_cons_succ, hm0, k3, g1, hal, q1_, q2_]; (first | done | rfl))
    | (apply w_condX; · simp only [go_sem, Nat.reduceEqDiff, Nat.reduceAdd, Nat.reduceLeDiff, h252, h253a, h253b, List.set_cons_succ, hm0, k3, g1, hal]; (first | done | rfl)); (first | refine wcd_T ?_ | refine wcd_F ?_)
    | refine w_skip ?_ | refine w_exit ?_ | refine w_ret ?_
    | fail
    )
  exact ⟨by first | exact .inr rfl | exact .inr trivial | exact .inl rfl, by simp only [go_sem, Nat.reduceEqDiff, Nat.reduceAdd, Nat.reduceLeDiff, retOf, resOf, List.set_cons_succ]; first | done | rfl⟩
theorem a248_b2 (H : Do9 env) (L : Has ljj env) (M : Has ljk env) (hal : AV env 254 [] = some (.sc (.bool true))) {l0 l : List Fl} {a0 b0 a b : Op9} (h252 : AV env 252 [.agg [.sl (fls l0)]] = some (.agg [.sl (fls l)])) (h253a : AV env 253 [opV a0] = some (opV a)) (h253b : AV env 253 [opV b0] = some (opV b)) (hl : l.length ≤ 18) (hsm : ∀ f ∈ l, f.Sm) (ha : a.Sm) (hb : b.Sm) (k3 : (a.k == 3) = false) (g1 : mfind (.string ⟨b.n.toArray⟩) (nmsO a) = some none) (q3 : (b.k == 3) = true) (g2 : mfind (.string ⟨b.d.toArray⟩) (nmsO a) = some (some (.sc (.int .i64 1)))) : AV env 248 [.agg [.sl (fls l0)], opV a0, opV b0] = some (.sc (.bool true)) := by
  have hm0 : mset (.string ⟨a.n.toArray⟩) (.sc (.int .i64 1)) [] = some [(.string ⟨a.n.toArray⟩, .sc (.int .i64 1))] := rfl
  have hnm : nmsO a = [(.string ⟨a.n.toArray⟩, .sc (.int .i64 1))] := by
    unfold nmsO; rw [if_neg (by simpa using k3)]
  rw [hnm] at g1 g2
  unfold opV at h253a h253b
  refine AV_wp (M (248, d248) (by simp [ljk])) rfl ?_
  unfold opV
  (repeat' first
    | refine w_seq ?_ | refine w_rg ?_ | refine wo_nil ?_ | refine g_skU ?_ | refine g_skT ?_ | refine g_skF ?_
    | ((first | apply s_plain | apply s_void | apply s_guard | apply g_goT | apply g_goF); · simp only [go_sem, Nat.reduceEqDiff, Nat.reduceAdd, Nat.reduceLeDiff, h252, h253a, h253b, List.set_cons_succ, hm0, k3, g1, g2, q3, hal]; (first | done | rfl))
    | ((first | apply g_T | apply g_F | apply g_gT | apply g_gF); · intro q1_; (first | intro q2_ | have q2_ := q1_); simp only [go_sem, Nat.reduceEqDiff, Nat.reduceAdd, Nat.reduceLeDiff, h252, h253a, h253b, List.set_cons_succ, hm0, k3, g1, g2, q3, hal, q1_, q2_]; (first | done | rfl))
    | (apply w_condX; · simp only [go_sem, Nat.reduceEqDiff, Nat.reduceAdd, Nat.reduceLeDiff, h252, h253a, h253b, List.set_cons_succ, hm0, k3, g1, g2, q3, hal]; (first | done | rfl)); (first | refine wcd_T ?_ | refine wcd_F ?_)
    | refine w_skip ?_ | refine w_exit ?_ | refine w_ret ?_
    | fail
    )
  exact ⟨by first | exact .inr rfl | exact .inr trivial | exact .inl rfl, by simp only [go_sem, Nat.reduceEqDiff, Nat.reduceAdd, Nat.reduceLeDiff, retOf, resOf, List.set_cons_succ]; first | done | rfl⟩
theorem a248_b31 (H : Do9 env) (L : Has ljj env) (M : Has ljk env) (hal : AV env 254 [] = some (.sc (.bool true))) {l0 l : List Fl} {a0 b0 a b : Op9} (h252 : AV env 252 [.agg [.sl (fls l0)]] = some (.agg [.sl (fls l)])) (h253a : AV env 253 [opV a0] = some (opV a)) (h253b : AV env 253 [opV b0] = some (opV b)) (hl : l.length ≤ 18) (hsm : ∀ f ∈ l, f.Sm) (ha : a.Sm) (hb : b.Sm) (k3 : (a.k == 3) = false) (g1 : mfind (.string ⟨b.n.toArray⟩) (nmsO a) = some none) (q3 : (b.k == 3) = true) (g2 : mfind (.string ⟨b.d.toArray⟩) (nmsO a) = some none) {x y : List Fl} {e f : Int} (p1 : doS l a = (x, e)) (p2 : doS l b = (y, f)) (e1 : (e != 0) = true) : AV env 248 [.agg [.sl (fls l0)], opV a0, opV b0] = some (.sc (.bool true)) := by
  have hm0 : mset (.string ⟨a.n.toArray⟩) (.sc (.int .i64 1)) [] = some [(.string ⟨a.n.toArray⟩, .sc (.int .i64 1))] := rfl
  have hnm : nmsO a = [(.string ⟨a.n.toArray⟩, .sc (.int .i64 1))] := by
    unfold nmsO; rw [if_neg (by simpa using k3)]
  rw [hnm] at g1 g2
  have hDa := H.do (l := l) (by omega) hsm ha
  have hDb := H.do (l := l) (by omega) hsm hb
  unfold opV at hDa hDb
  rw [p1] at hDa
  rw [p2] at hDb
  have hx0 : x = [] := (do_sm p1).2.2 (by simpa using e1)
  subst hx0
  have z1 := fls_len ([] : List Fl)
  have z2 := fls_len y
  have z3 : IntKind.i64.wrap (0 * (y.length : Int)) = 0 := by rw [Int.zero_mul]; rfl
  have z4 : ((0 : Int) == 0) = true := rfl
  unfold opV at h253a h253b
  refine AV_wp (M (248, d248) (by simp [ljk])) rfl ?_
  unfold opV
  (repeat' first
    | refine w_seq ?_ | refine w_rg ?_ | refine wo_nil ?_ | refine g_skU ?_ | refine g_skT ?_ | refine g_skF ?_
    | ((first | apply s_plain | apply s_void | apply s_guard | apply g_goT | apply g_goF); · simp only [go_sem, Nat.reduceEqDiff, Nat.reduceAdd, Nat.reduceLeDiff, h252, h253a, h253b, List.set_cons_succ, hm0, k3, g1, g2, q3, hal, hDa, hDb, e1, z1, z2, z3, z4]; (first | done | rfl))
    | ((first | apply g_T | apply g_F | apply g_gT | apply g_gF); · intro q1_; (first | intro q2_ | have q2_ := q1_); simp only [go_sem, Nat.reduceEqDiff, Nat.reduceAdd, Nat.reduceLeDiff, h252, h253a, h253b, List.set_cons_succ, hm0, k3, g1, g2, q3, hal, hDa, hDb, e1, z1, z2, z3, z4, q1_, q2_]; (first | done | rfl))
    | (apply w_condX; · simp only [go_sem, Nat.reduceEqDiff, Nat.reduceAdd, Nat.reduceLeDiff, h252, h253a, h253b, List.set_cons_succ, hm0, k3, g1, g2, q3, hal, hDa, hDb, e1, z1, z2, z3, z4]; (first | done | rfl)); (first | refine wcd_T ?_ | refine wcd_F ?_)
    | refine w_skip ?_ | refine w_exit ?_ | refine w_ret ?_
    | fail
    )
  exact ⟨by first | exact .inr rfl | exact .inr trivial | exact .inl rfl, by simp only [go_sem, Nat.reduceEqDiff, Nat.reduceAdd, Nat.reduceLeDiff, retOf, resOf, List.set_cons_succ]; first | done | rfl⟩
theorem a248_b32 (H : Do9 env) (L : Has ljj env) (M : Has ljk env) (hal : AV env 254 [] = some (.sc (.bool true))) {l0 l : List Fl} {a0 b0 a b : Op9} (h252 : AV env 252 [.agg [.sl (fls l0)]] = some (.agg [.sl (fls l)])) (h253a : AV env 253 [opV a0] = some (opV a)) (h253b : AV env 253 [opV b0] = some (opV b)) (hl : l.length ≤ 18) (hsm : ∀ f ∈ l, f.Sm) (ha : a.Sm) (hb : b.Sm) (k3 : (a.k == 3) = false) (g1 : mfind (.string ⟨b.n.toArray⟩) (nmsO a) = some none) (q3 : (b.k == 3) = true) (g2 : mfind (.string ⟨b.d.toArray⟩) (nmsO a) = some none) {x y : List Fl} {e f : Int} (p1 : doS l a = (x, e)) (p2 : doS l b = (y, f)) (e1 : e = 0) (f1 : (f != 0) = true) : AV env 248 [.agg [.sl (fls l0)], opV a0, opV b0] = some (.sc (.bool true)) := by
  have hm0 : mset (.string ⟨a.n.toArray⟩) (.sc (.int .i64 1)) [] = some [(.string ⟨a.n.toArray⟩, .sc (.int .i64 1))] := rfl
  have hnm : nmsO a = [(.string ⟨a.n.toArray⟩, .sc (.int .i64 1))] := by
    unfold nmsO; rw [if_neg (by simpa using k3)]
  rw [hnm] at g1 g2
  have hDa := H.do (l := l) (by omega) hsm ha
  have hDb := H.do (l := l) (by omega) hsm hb
  unfold opV at hDa hDb
  rw [p1] at hDa
  rw [p2] at hDb
  subst e1
  have hy0 : y = [] := (do_sm p2).2.2 (by simpa using f1)
  subst hy0
  have z1 := fls_len x
  have z2 := fls_len ([] : List Fl)
  have z3 : IntKind.i64.wrap ((x.length : Int) * 0) = 0 := by rw [Int.mul_zero]; rfl
  have z4 : ((0 : Int) == 0) = true := rfl
  unfold opV at h253a h253b
  refine AV_wp (M (248, d248) (by simp [ljk])) rfl ?_
  unfold opV
  (repeat' first
    | refine w_seq ?_ | refine w_rg ?_ | refine wo_nil ?_ | refine g_skU ?_ | refine g_skT ?_ | refine g_skF ?_
    | ((first | apply s_plain | apply s_void | apply s_guard | apply g_goT | apply g_goF); · simp only [go_sem, Nat.reduceEqDiff, Nat.reduceAdd, Nat.reduceLeDiff, h252, h253a, h253b, List.set_cons_succ, hm0, k3, g1, g2, q3, hal, hDa, hDb, f1, z1, z2, z3, z4, bne_self_eq_false]; (first | done | rfl))
    | ((first | apply g_T | apply g_F | apply g_gT | apply g_gF); · intro q1_; (first | intro q2_ | have q2_ := q1_); simp only [go_sem, Nat.reduceEqDiff, Nat.reduceAdd, Nat.reduceLeDiff, h252, h253a, h253b, List.set_cons_succ, hm0, k3, g1, g2, q3, hal, hDa, hDb, f1, z1, z2, z3, z4, bne_self_eq_false, q1_, q2_]; (first | done | rfl))
    | (apply w_condX; · simp only [go_sem, Nat.reduceEqDiff, Nat.reduceAdd, Nat.reduceLeDiff, h252, h253a, h253b, List.set_cons_succ, hm0, k3, g1, g2, q3, hal, hDa, hDb, f1, z1, z2, z3, z4, bne_self_eq_false]; (first | done | rfl)); (first | refine wcd_T ?_ | refine wcd_F ?_)
    | refine w_skip ?_ | refine w_exit ?_ | refine w_ret ?_
    | fail
    )
  exact ⟨by first | exact .inr rfl | exact .inr trivial | exact .inl rfl, by simp only [go_sem, Nat.reduceEqDiff, Nat.reduceAdd, Nat.reduceLeDiff, retOf, resOf, List.set_cons_succ]; first | done | rfl⟩
theorem a248_b33 (H : Do9 env) (L : Has ljj env) (M : Has ljk env) (hal : AV env 254 [] = some (.sc (.bool true))) {l0 l : List Fl} {a0 b0 a b : Op9} (h252 : AV env 252 [.agg [.sl (fls l0)]] = some (.agg [.sl (fls l)])) (h253a : AV env 253 [opV a0] = some (opV a)) (h253b : AV env 253 [opV b0] = some (opV b)) (hl : l.length ≤ 18) (hsm : ∀ f ∈ l, f.Sm) (ha : a.Sm) (hb : b.Sm) (k3 : (a.k == 3) = false) (g1 : mfind (.string ⟨b.n.toArray⟩) (nmsO a) = some none) (q3 : (b.k == 3) = true) (g2 : mfind (.string ⟨b.d.toArray⟩) (nmsO a) = some none) {x y r q : List Fl} {e f g h : Int} (p1 : doS l a = (x, e)) (p2 : doS l b = (y, f)) (e1 : e = 0) (f1 : f = 0) (p3 : doS x b = (r, g)) (p4 : doS y a = (q, h)) (t1 : (g == 13) = true) : AV env 248 [.agg [.sl (fls l0)], opV a0, opV b0] = some (.sc (.bool true)) := by
  have hm0 : mset (.string ⟨a.n.toArray⟩) (.sc (.int .i64 1)) [] = some [(.string ⟨a.n.toArray⟩, .sc (.int .i64 1))] := rfl
  have hnm : nmsO a = [(.string ⟨a.n.toArray⟩, .sc (.int .i64 1))] := by
    unfold nmsO; rw [if_neg (by simpa using k3)]
  rw [hnm] at g1 g2
  have hDa := H.do (l := l) (by omega) hsm ha
  have hDb := H.do (l := l) (by omega) hsm hb
  unfold opV at hDa hDb
  rw [p1] at hDa
  rw [p2] at hDb
  subst e1 f1
  have hx := do_sm p1
  have hy := do_sm p2
  have hEb := H.do (l := x) (by omega) hx.2.1 hb
  have hEa := H.do (l := y) (by omega) hy.2.1 ha
  unfold opV at hEa hEb
  rw [p3] at hEb
  rw [p4] at hEa
  unfold opV at h253a h253b
  refine AV_wp (M (248, d248) (by simp [ljk])) rfl ?_
  unfold opV
  (repeat' first
    | refine w_seq ?_ | refine w_rg ?_ | refine wo_nil ?_ | refine g_skU ?_ | refine g_skT ?_ | refine g_skF ?_
    | ((first | apply s_plain | apply s_void | apply s_guard | apply g_goT | apply g_goF); · simp only [go_sem, Nat.reduceEqDiff, Nat.reduceAdd, Nat.reduceLeDiff, h252, h253a, h253b, List.set_cons_succ, hm0, k3, g1, g2, q3, hal, hDa, hDb, hEa, hEb, t1, bne_self_eq_false]; (first | done | rfl))
    | ((first | apply g_T | apply g_F | apply g_gT | apply g_gF); · intro q1_; (first | intro q2_ | have q2_ := q1_); simp only [go_sem, Nat.reduceEqDiff, Nat.reduceAdd, Nat.reduceLeDiff, h252, h253a, h253b, List.set_cons_succ, hm0, k3, g1, g2, q3, hal, hDa, hDb, hEa, hEb, t1, bne_self_eq_false, q1_, q2_]; (first | done | rfl))
    | (apply w_condX; · simp only [go_sem, Nat.reduceEqDiff, Nat.reduceAdd, Nat.reduceLeDiff, h252, h253a, h253b, List.set_cons_succ, hm0, k3, g1, g2, q3, hal, hDa, hDb, hEa, hEb, t1, bne_self_eq_false]; (first | done | rfl)); (first | refine wcd_T ?_ | refine wcd_F ?_)
    | refine w_skip ?_ | refine w_exit ?_ | refine w_ret ?_
    | fail
    )
  exact ⟨by first | exact .inr rfl | exact .inr trivial | exact .inl rfl, by simp only [go_sem, Nat.reduceEqDiff, Nat.reduceAdd, Nat.reduceLeDiff, retOf, resOf, List.set_cons_succ]; first | done | rfl⟩
theorem a248_b34 (H : Do9 env) (L : Has ljj env) (M : Has ljk env) (hal : AV env 254 [] = some (.sc (.bool true))) {l0 l : List Fl} {a0 b0 a b : Op9} (h252 : AV env 252 [.agg [.sl (fls l0)]] = some (.agg [.sl (fls l)])) (h253a : AV env 253 [opV a0] = some (opV a)) (h253b : AV env 253 [opV b0] = some (opV b)) (hl : l.length ≤ 18) (hsm : ∀ f ∈ l, f.Sm) (ha : a.Sm) (hb : b.Sm) (k3 : (a.k == 3) = false) (g1 : mfind (.string ⟨b.n.toArray⟩) (nmsO a) = some none) (q3 : (b.k == 3) = true) (g2 : mfind (.string ⟨b.d.toArray⟩) (nmsO a) = some none) {x y r q : List Fl} {e f g h : Int} (p1 : doS l a = (x, e)) (p2 : doS l b = (y, f)) (e1 : e = 0) (f1 : f = 0) (p3 : doS x b = (r, g)) (p4 : doS y a = (q, h)) (t1 : (g == 13) = false) (t2 : (h == 13) = true) : AV env 248 [.agg [.sl (fls l0)], opV a0, opV b0] = some (.sc (.bool true)) := by
  have hm0 : mset (.string ⟨a.n.toArray⟩) (.sc (.int .i64 1)) [] = some [(.string ⟨a.n.toArray⟩, .sc (.int .i64 1))] := rfl
  have hnm : nmsO a = [(.string ⟨a.n.toArray⟩, .sc (.int .i64 1))] := by
    unfold nmsO; rw [if_neg (by simpa using k3)]
  rw [hnm] at g1 g2
  have hDa := H.do (l := l) (by omega) hsm ha
  have hDb := H.do (l := l) (by omega) hsm hb
  unfold opV at hDa hDb
  rw [p1] at hDa
  rw [p2] at hDb
  subst e1 f1
  have hx := do_sm p1
  have hy := do_sm p2
  have hEb := H.do (l := x) (by omega) hx.2.1 hb
  have hEa := H.do (l := y) (by omega) hy.2.1 ha
  unfold opV at hEa hEb
  rw [p3] at hEb
  rw [p4] at hEa
  unfold opV at h253a h253b
  refine AV_wp (M (248, d248) (by simp [ljk])) rfl ?_
  unfold opV
  (repeat' first
    | refine w_seq ?_ | refine w_rg ?_ | refine wo_nil ?_ | refine g_skU ?_ | refine g_skT ?_ | refine g_skF ?_
    | ((first | apply s_plain | apply s_void | apply s_guard | apply g_goT | apply g_goF); · simp only [go_sem, Nat.reduceEqDiff, Nat.reduceAdd, Nat.reduceLeDiff, h252, h253a, h253b, List.set_cons_succ, hm0, k3, g1, g2, q3, hal, hDa, hDb, hEa, hEb, t1, t2, bne_self_eq_false]; (first | done | rfl))
    | ((first | apply g_T | apply g_F | apply g_gT | apply g_gF); · intro q1_; (first | intro q2_ | have q2_ := q1_); simp only [go_sem, Nat.reduceEqDiff, Nat.reduceAdd, Nat.reduceLeDiff, h252, h253a, h253b, List.set_cons_succ, hm0, k3, g1, g2, q3, hal, hDa, hDb, hEa, hEb, t1, t2, bne_self_eq_false, q1_, q2_]; (first | done | rfl))
    | (apply w_condX; · simp only [go_sem, Nat.reduceEqDiff, Nat.reduceAdd, Nat.reduceLeDiff, h252, h253a, h253b, List.set_cons_succ, hm0, k3, g1, g2, q3, hal, hDa, hDb, hEa, hEb, t1, t2, bne_self_eq_false]; (first | done | rfl)); (first | refine wcd_T ?_ | refine wcd_F ?_)
    | refine w_skip ?_ | refine w_exit ?_ | refine w_ret ?_
    | fail
    )
  exact ⟨by first | exact .inr rfl | exact .inr trivial | exact .inl rfl, by simp only [go_sem, Nat.reduceEqDiff, Nat.reduceAdd, Nat.reduceLeDiff, retOf, resOf, List.set_cons_succ]; first | done | rfl⟩
theorem a248_b35 (H : Do9 env) (L : Has ljj env) (M : Has ljk env) (hal : AV env 254 [] = some (.sc (.bool true))) {l0 l : List Fl} {a0 b0 a b : Op9} (h252 : AV env 252 [.agg [.sl (fls l0)]] = some (.agg [.sl (fls l)])) (h253a : AV env 253 [opV a0] = some (opV a)) (h253b : AV env 253 [opV b0] = some (opV b)) (hl : l.length ≤ 18) (hsm : ∀ f ∈ l, f.Sm) (ha : a.Sm) (hb : b.Sm) (k3 : (a.k == 3) = false) (g1 : mfind (.string ⟨b.n.toArray⟩) (nmsO a) = some none) (q3 : (b.k == 3) = true) (g2 : mfind (.string ⟨b.d.toArray⟩) (nmsO a) = some none) {x y r q : List Fl} {e f g h : Int} (p1 : doS l a = (x, e)) (p2 : doS l b = (y, f)) (e1 : e = 0) (f1 : f = 0) (p3 : doS x b = (r, g)) (p4 : doS y a = (q, h)) (t1 : (g == 13) = false) (t2 : (h == 13) = false) (hap : apart9 a b = true) : AV env 248 [.agg [.sl (fls l0)], opV a0, opV b0] = some (.sc (.bool true)) := by
  have hm0 : mset (.string ⟨a.n.toArray⟩) (.sc (.int .i64 1)) [] = some [(.string ⟨a.n.toArray⟩, .sc (.int .i64 1))] := rfl
  have hnm : nmsO a = [(.string ⟨a.n.toArray⟩, .sc (.int .i64 1))] := by
    unfold nmsO; rw [if_neg (by simpa using k3)]
  rw [hnm] at g1 g2
  have hDa := H.do (l := l) (by omega) hsm ha
  have hDb := H.do (l := l) (by omega) hsm hb
  unfold opV at hDa hDb
  rw [p1] at hDa
  rw [p2] at hDb
  subst e1 f1
  have hx := do_sm p1
  have hy := do_sm p2
  have hEb := H.do (l := x) (by omega) hx.2.1 hb
  have hEa := H.do (l := y) (by omega) hy.2.1 ha
  unfold opV at hEa hEb
  rw [p3] at hEb
  rw [p4] at hEa
  obtain ⟨w1, w2, w3⟩ := do_turns p1 p2 hap p3 p4 (by simpa using t1) (by simpa using t2)
  subst w1 w2 w3
  have hrl := do_sm p3
  have hlk := a256 L (a := r) (b := r) (by omega)
  rw [decide_eq_true rfl] at hlk
  unfold opV at h253a h253b
  refine AV_wp (M (248, d248) (by simp [ljk])) rfl ?_
  unfold opV
  (repeat' first
    | refine w_seq ?_ | refine w_rg ?_ | refine wo_nil ?_ | refine g_skU ?_ | refine g_skT ?_ | refine g_skF ?_
    | ((first | apply s_plain | apply s_void | apply s_guard | apply g_goT | apply g_goF); · simp only [go_sem, Nat.reduceEqDiff, Nat.reduceAdd, Nat.reduceLeDiff, h252, h253a, h253b, List.set_cons_succ, hm0, k3, g1, g2, q3, hal, hDa, hDb, hEa, hEb, t1, t2, hlk, bne_self_eq_false]; (first | done | rfl))
    | ((first | apply g_T | apply g_F | apply g_gT | apply g_gF); · intro q1_; (first | intro q2_ | have q2_ := q1_); simp only [go_sem, Nat.reduceEqDiff, Nat.reduceAdd, Nat.reduceLeDiff, h252, h253a, h253b, List.set_cons_succ, hm0, k3, g1, g2, q3, hal, hDa, hDb, hEa, hEb, t1, t2, hlk, bne_self_eq_false, q1_, q2_]; (first | done | rfl))
    | (apply w_condX; · simp only [go_sem, Nat.reduceEqDiff, Nat.reduceAdd, Nat.reduceLeDiff, h252, h253a, h253b, List.set_cons_succ, hm0, k3, g1, g2, q3, hal, hDa, hDb, hEa, hEb, t1, t2, hlk, bne_self_eq_false]; (first | done | rfl)); (first | refine wcd_T ?_ | refine wcd_F ?_)
    | refine w_skip ?_ | refine w_exit ?_ | refine w_ret ?_
    | fail
    )
  exact ⟨by first | exact .inr rfl | exact .inr trivial | exact .inl rfl, by simp only [go_sem, Nat.reduceEqDiff, Nat.reduceAdd, Nat.reduceLeDiff, retOf, resOf, List.set_cons_succ]; first | done | rfl⟩
theorem a248_b41 (H : Do9 env) (L : Has ljj env) (M : Has ljk env) (hal : AV env 254 [] = some (.sc (.bool true))) {l0 l : List Fl} {a0 b0 a b : Op9} (h252 : AV env 252 [.agg [.sl (fls l0)]] = some (.agg [.sl (fls l)])) (h253a : AV env 253 [opV a0] = some (opV a)) (h253b : AV env 253 [opV b0] = some (opV b)) (hl : l.length ≤ 18) (hsm : ∀ f ∈ l, f.Sm) (ha : a.Sm) (hb : b.Sm) (k3 : (a.k == 3) = false) (g1 : mfind (.string ⟨b.n.toArray⟩) (nmsO a) = some none) (q3 : (b.k == 3) = false) {x y : List Fl} {e f : Int} (p1 : doS l a = (x, e)) (p2 : doS l b = (y, f)) (e1 : (e != 0) = true) : AV env 248 [.agg [.sl (fls l0)], opV a0, opV b0] = some (.sc (.bool true)) := by
  have hm0 : mset (.string ⟨a.n.toArray⟩) (.sc (.int .i64 1)) [] = some [(.string ⟨a.n.toArray⟩, .sc (.int .i64 1))] := rfl
  have hnm : nmsO a = [(.string ⟨a.n.toArray⟩, .sc (.int .i64 1))] := by
    unfold nmsO; rw [if_neg (by simpa using k3)]
  rw [hnm] at g1
  have hDa := H.do (l := l) (by omega) hsm ha
  have hDb := H.do (l := l) (by omega) hsm hb
  unfold opV at hDa hDb
  rw [p1] at hDa
  rw [p2] at hDb
  have hx0 : x = [] := (do_sm p1).2.2 (by simpa using e1)
  subst hx0
  have z1 := fls_len ([] : List Fl)
  have z2 := fls_len y
  have z3 : IntKind.i64.wrap (0 * (y.length : Int)) = 0 := by rw [Int.zero_mul]; rfl
  have z4 : ((0 : Int) == 0) = true := rfl
  unfold opV at h253a h253b
  refine AV_wp (M (248, d248) (by simp [ljk])) rfl ?_
  unfold opV
  (repeat' first
    | refine w_seq ?_ | refine w_rg ?_ | refine wo_nil ?_ | refine g_skU ?_ | refine g_skT ?_ | refine g_skF ?_
    | ((first | apply s_plain | apply s_void | apply s_guard | apply g_goT | apply g_goF); · simp only [go_sem, Nat.reduceEqDiff, Nat.reduceAdd, Nat.reduceLeDiff, h252, h253a, h253b, List.set_cons_succ, hm0, k3, g1, q3, hal, hDa, hDb, e1, z1, z2, z3, z4]; (first | done | rfl))
    | ((first | apply g_T | apply g_F | apply g_gT | apply g_gF); · intro q1_; (first | intro q2_ | have q2_ := q1_); simp only [go_sem, Nat.reduceEqDiff, Nat.reduceAdd, Nat.reduceLeDiff, h252, h253a, h253b, List.set_cons_succ, hm0, k3, g1, q3, hal, hDa, hDb, e1, z1, z2, z3, z4, q1_, q2_]; (first | done | rfl))
    | (apply w_condX; · simp only [go_sem, Nat.reduceEqDiff, Nat.reduceAdd, Nat.reduceLeDiff, h252, h253a, h253b, List.set_cons_succ, hm0, k3, g1, q3, hal, hDa, hDb, e1, z1, z2, z3, z4]; (first | done | rfl)); (first | refine wcd_T ?_ | refine wcd_F ?_)
    | refine w_skip ?_ | refine w_exit ?_ | refine w_ret ?_
    | fail
    )
  exact ⟨by first | exact .inr rfl | exact .inr trivial | exact .inl rfl, by simp only [go_sem, Nat.reduceEqDiff, Nat.reduceAdd, Nat.reduceLeDiff, retOf, resOf, List.set_cons_succ]; first | done | rfl⟩
theorem a248_b42 (H : Do9 env) (L : Has ljj env) (M : Has ljk env) (hal : AV env 254 [] = some (.sc (.bool true))) {l0 l : List Fl} {a0 b0 a b : Op9} (h252 : AV env 252 [.agg [.sl (fls l0)]] = some (.agg [.sl (fls l)])) (h253a : AV env 253 [opV a0] = some (opV a)) (h253b : AV env 253 [opV b0] = some (opV b)) (hl : l.length ≤ 18) (hsm : ∀ f ∈ l, f.Sm) (ha : a.Sm) (hb : b.Sm) (k3 : (a.k == 3) = false) (g1 : mfind (.string ⟨b.n.toArray⟩) (nmsO a) = some none) (q3 : (b.k == 3) = false) {x y : List Fl} {e f : Int} (p1 : doS l a = (x, e)) (p2 : doS l b = (y, f)) (e1 : e = 0) (f1 : (f != 0) = true) : AV env 248 [.agg [.sl (fls l0)], opV a0, opV b0] = some (.sc (.bool true)) := by
  have hm0 : mset (.string ⟨a.n.toArray⟩) (.sc (.int .i64 1)) [] = some [(.string ⟨a.n.toArray⟩, .sc (.int .i64 1))] := rfl
  have hnm : nmsO a = [(.string ⟨a.n.toArray⟩, .sc (.int .i64 1))] := by
    unfold nmsO; rw [if_neg (by simpa using k3)]
  rw [hnm] at g1
  have hDa := H.do (l := l) (by omega) hsm ha
  have hDb := H.do (l := l) (by omega) hsm hb
  unfold opV at hDa hDb
  rw [p1] at hDa
  rw [p2] at hDb
  subst e1
  have hy0 : y = [] := (do_sm p2).2.2 (by simpa using f1)
  subst hy0
  have z1 := fls_len x
  have z2 := fls_len ([] : List Fl)
  have z3 : IntKind.i64.wrap ((x.length : Int) * 0) = 0 := by rw [Int.mul_zero]; rfl
  have z4 : ((0 : Int) == 0) = true := rfl
  unfold opV at h253a h253b
  refine AV_wp (M (248, d248) (by simp [ljk])) rfl ?_
  unfold opV
  (repeat' first
    | refine w_seq ?_ | refine w_rg ?_ | refine wo_nil ?_ | refine g_skU ?_ | refine g_skT ?_ | refine g_skF ?_
    | ((first | apply s_plain | apply s_void | apply s_guard | apply g_goT | apply g_goF); · simp only [go_sem, Nat.reduceEqDiff, Nat.reduceAdd, Nat.reduceLeDiff, h252, h253a, h253b, List.set_cons_succ, hm0, k3, g1, q3, hal, hDa, hDb, f1, z1, z2, z3, z4, bne_self_eq_false]; (first | done | rfl))
    | ((first | apply g_T | apply g_F | apply g_gT | apply g_gF); · intro q1_; (first | intro q2_ | have q2_ := q1_); simp only [go_sem, Nat.reduceEqDiff, Nat.reduceAdd, Nat.reduceLeDiff, h252, h253a, h253b, List.set_cons_succ, hm0, k3, g1, q3, hal, hDa, hDb, f1, z1, z2, z3, z4, bne_self_eq_false, q1_, q2_]; (first | done | rfl))
    | (apply w_condX; · simp only [go_sem, Nat.reduceEqDiff, Nat.reduceAdd, Nat.reduceLeDiff, h252, h253a, h253b, List.set_cons_succ, hm0, k3, g1, q3, hal, hDa, hDb, f1, z1, z2, z3, z4, bne_self_eq_false]; (first | done | rfl)); (first | refine wcd_T ?_ | refine wcd_F ?_)
    | refine w_skip ?_ | refine w_exit ?_ | refine w_ret ?_
    | fail
    )
  exact ⟨by first | exact .inr rfl | exact .inr trivial | exact .inl rfl, by simp only [go_sem, Nat.reduceEqDiff, Nat.reduceAdd, Nat.reduceLeDiff, retOf, resOf, List.set_cons_succ]; first | done | rfl⟩
theorem a248_b43 (H : Do9 env) (L : Has ljj env) (M : Has ljk env) (hal : AV env 254 [] = some (.sc (.bool true))) {l0 l : List Fl} {a0 b0 a b : Op9} (h252 : AV env 252 [.agg [.sl (fls l0)]] = some (.agg [.sl (fls l)])) (h253a : AV env 253 [opV a0] = some (opV a)) (h253b : AV env 253 [opV b0] = some (opV b)) (hl : l.length ≤ 18) (hsm : ∀ f ∈ l, f.Sm) (ha : a.Sm) (hb : b.Sm) (k3 : (a.k == 3) = false) (g1 : mfind (.string ⟨b.n.toArray⟩) (nmsO a) = some none) (q3 : (b.k == 3) = false) {x y r q : List Fl} {e f g h : Int} (p1 : doS l a = (x, e)) (p2 : doS l b = (y, f)) (e1 : e = 0) (f1 : f = 0) (p3 : doS x b = (r, g)) (p4 : doS y a = (q, h)) (t1 : (g == 13) = true) : AV env 248 [.agg [.sl (fls l0)], opV a0, opV b0] = some (.sc (.bool true)) := by
  have hm0 : mset (.string ⟨a.n.toArray⟩) (.sc (.int .i64 1)) [] = some [(.string ⟨a.n.toArray⟩, .sc (.int .i64 1))] := rfl
  have hnm : nmsO a = [(.string ⟨a.n.toArray⟩, .sc (.int .i64 1))] := by
    unfold nmsO; rw [if_neg (by simpa using k3)]
  rw [hnm] at g1
  have hDa := H.do (l := l) (by omega) hsm ha
  have hDb := H.do (l := l) (by omega) hsm hb
  unfold opV at hDa hDb
  rw [p1] at hDa
  rw [p2] at hDb
  subst e1 f1
  have hx := do_sm p1
  have hy := do_sm p2
  have hEb := H.do (l := x) (by omega) hx.2.1 hb
  have hEa := H.do (l := y) (by omega) hy.2.1 ha
  unfold opV at hEa hEb
  rw [p3] at hEb
  rw [p4] at hEa
  unfold opV at h253a h253b
  refine AV_wp (M (248, d248) (by simp [ljk])) rfl ?_
  unfold opV
  (repeat' first
    | refine w_seq ?_ | refine w_rg ?_ | refine wo_nil ?_ | refine g_skU ?_ | refine g_skT ?_ | refine g_skF ?_
    | ((first | apply s_plain | apply s_void | apply s_guard | apply g_goT | apply g_goF); · simp only [go_sem, Nat.reduceEqDiff, Nat.reduceAdd, Nat.reduceLeDiff, h252, h253a, h253b, List.set_cons_succ, hm0, k3, g1, q3, hal, hDa, hDb, hEa, hEb, t1, bne_self_eq_false]; (first | done | rfl))
    | ((first | apply g_T | apply g_F | apply g_gT | apply g_gF); · intro q1_; (first | intro q2_ | have q2_ := q1_); simp only [go_sem, Nat.reduceEqDiff, Nat.reduceAdd, Nat.reduceLeDiff, h252, h253a, h253b, List.set_cons_succ, hm0, k3, g1, q3, hal, hDa, hDb, hEa, hEb, t1, bne_self_eq_false, q1_, q2_]; (first | done | rfl))
    | (apply w_condX; · simp only [go_sem, Nat.reduceEqDiff, Nat.reduceAdd, Nat.reduceLeDiff, h252, h253a, h253b, List.set_cons_succ, hm0, k3, g1, q3, hal, hDa, hDb, hEa, hEb, t1, bne_self_eq_false]; (first | done | rfl)); (first | refine wcd_T ?_ | refine wcd_F ?_)
    | refine w_skip ?_ | refine w_exit ?_ | refine w_ret ?_
    | fail
    )
  exact ⟨by first | exact .inr rfl | exact .inr trivial | exact .inl rfl, by simp only [go_sem, Nat.reduceEqDiff, Nat.reduceAdd, Nat.reduceLeDiff, retOf, resOf, List.set_cons_succ]; first | done | rfl⟩
theorem a248_b44 (H : Do9 env) (L : Has ljj env) (M : Has ljk env) (hal : AV env 254 [] = some (.sc (.bool true))) {l0 l : List Fl} {a0 b0 a b : Op9} (h252 : AV env 252 [.agg [.sl (fls l0)]] = some (.agg [.sl (fls l)])) (h253a : AV env 253 [opV a0] = some (opV a)) (h253b : AV env 253 [opV b0] = some (opV b)) (hl : l.length ≤ 18) (hsm : ∀ f ∈ l, f.Sm) (ha : a.Sm) (hb : b.Sm) (k3 : (a.k == 3) = false) (g1 : mfind (.string ⟨b.n.toArray⟩) (nmsO a) = some none) (q3 : (b.k == 3) = false) {x y r q : List Fl} {e f g h : Int} (p1 : doS l a = (x, e)) (p2 : doS l b = (y, f)) (e1 : e = 0) (f1 : f = 0) (p3 : doS x b = (r, g)) (p4 : doS y a = (q, h)) (t1 : (g == 13) = false) (t2 : (h == 13) = true) : AV env 248 [.agg [.sl (fls l0)], opV a0, opV b0] = some (.sc (.bool true)) := by
  have hm0 : mset (.string ⟨a.n.toArray⟩) (.sc (.int .i64 1)) [] = some [(.string ⟨a.n.toArray⟩, .sc (.int .i64 1))] := rfl
  have hnm : nmsO a = [(.string ⟨a.n.toArray⟩, .sc (.int .i64 1))] := by
    unfold nmsO; rw [if_neg (by simpa using k3)]
  rw [hnm] at g1
  have hDa := H.do (l := l) (by omega) hsm ha
  have hDb := H.do (l := l) (by omega) hsm hb
  unfold opV at hDa hDb
  rw [p1] at hDa
  rw [p2] at hDb
  subst e1 f1
  have hx := do_sm p1
  have hy := do_sm p2
  have hEb := H.do (l := x) (by omega) hx.2.1 hb
  have hEa := H.do (l := y) (by omega) hy.2.1 ha
  unfold opV at hEa hEb
  rw [p3] at hEb
  rw [p4] at hEa
  unfold opV at h253a h253b
  refine AV_wp (M (248, d248) (by simp [ljk])) rfl ?_
  unfold opV
  (repeat' first
    | refine w_seq ?_ | refine w_rg ?_ | refine wo_nil ?_ | refine g_skU ?_ | refine g_skT ?_ | refine g_skF ?_
    | ((first | apply s_plain | apply s_void | apply s_guard | apply g_goT | apply g_goF); · simp only [go_sem, Nat.reduceEqDiff, Nat.reduceAdd, Nat.reduceLeDiff, h252, h253a, h253b, List.set_cons_succ, hm0, k3, g1, q3, hal, hDa, hDb, hEa, hEb, t1, t2, bne_self_eq_false]; (first | done | rfl))
    | ((first | apply g_T | apply g_F | apply g_gT | apply g_gF); · intro q1_; (first | intro q2_ | have q2_ := q1_); simp only [go_sem, Nat.reduceEqDiff, Nat.reduceAdd, Nat.reduceLeDiff, h252, h253a, h253b, List.set_cons_succ, hm0, k3, g1, q3, hal, hDa, hDb, hEa, hEb, t1, t2, bne_self_eq_false, q1_, q2_]; (first | done | rfl))
    | (apply w_condX; · simp only [go_sem, Nat.reduceEqDiff, Nat.reduceAdd, Nat.reduceLeDiff, h252, h253a, h253b, List.set_cons_succ, hm0, k3, g1, q3, hal, hDa, hDb, hEa, hEb, t1, t2, bne_self_eq_false]; (first | done | rfl)); (first | refine wcd_T ?_ | refine wcd_F ?_)
    | refine w_skip ?_ | refine w_exit ?_ | refine w_ret ?_
    | fail
    )
  exact ⟨by first | exact .inr rfl | exact .inr trivial | exact .inl rfl, by simp only [go_sem, Nat.reduceEqDiff, Nat.reduceAdd, Nat.reduceLeDiff, retOf, resOf, List.set_cons_succ]; first | done | rfl⟩
theorem a248_b45 (H : Do9 env) (L : Has ljj env) (M : Has ljk env) (hal : AV env 254 [] = some (.sc (.bool true))) {l0 l : List Fl} {a0 b0 a b : Op9} (h252 : AV env 252 [.agg [.sl (fls l0)]] = some (.agg [.sl (fls l)])) (h253a : AV env 253 [opV a0] = some (opV a)) (h253b : AV env 253 [opV b0] = some (opV b)) (hl : l.length ≤ 18) (hsm : ∀ f ∈ l, f.Sm) (ha : a.Sm) (hb : b.Sm) (k3 : (a.k == 3) = false) (g1 : mfind (.string ⟨b.n.toArray⟩) (nmsO a) = some none) (q3 : (b.k == 3) = false) {x y r q : List Fl} {e f g h : Int} (p1 : doS l a = (x, e)) (p2 : doS l b = (y, f)) (e1 : e = 0) (f1 : f = 0) (p3 : doS x b = (r, g)) (p4 : doS y a = (q, h)) (t1 : (g == 13) = false) (t2 : (h == 13) = false) (hap : apart9 a b = true) : AV env 248 [.agg [.sl (fls l0)], opV a0, opV b0] = some (.sc (.bool true)) := by
  have hm0 : mset (.string ⟨a.n.toArray⟩) (.sc (.int .i64 1)) [] = some [(.string ⟨a.n.toArray⟩, .sc (.int .i64 1))] := rfl
  have hnm : nmsO a = [(.string ⟨a.n.toArray⟩, .sc (.int .i64 1))] := by
    unfold nmsO; rw [if_neg (by simpa using k3)]
  rw [hnm] at g1
  have hDa := H.do (l := l) (by omega) hsm ha
  have hDb := H.do (l := l) (by omega) hsm hb
  unfold opV at hDa hDb
  rw [p1] at hDa
  rw [p2] at hDb
  subst e1 f1
  have hx := do_sm p1
  have hy := do_sm p2
  have hEb := H.do (l := x) (by omega) hx.2.1 hb
  have hEa := H.do (l := y) (by omega) hy.2.1 ha
  unfold opV at hEa hEb
  rw [p3] at hEb
  rw [p4] at hEa
  obtain ⟨w1, w2, w3⟩ := do_turns p1 p2 hap p3 p4 (by simpa using t1) (by simpa using t2)
  subst w1 w2 w3
  have hrl := do_sm p3
  have hlk := a256 L (a := r) (b := r) (by omega)
  rw [decide_eq_true rfl] at hlk
  unfold opV at h253a h253b
  refine AV_wp (M (248, d248) (by simp [ljk])) rfl ?_
  unfold opV
  (repeat' first
    | refine w_seq ?_ | refine w_rg ?_ | refine wo_nil ?_ | refine g_skU ?_ | refine g_skT ?_ | refine g_skF ?_
    | ((first | apply s_plain | apply s_void | apply s_guard | apply g_goT | apply g_goF); · simp only [go_sem, Nat.reduceEqDiff, Nat.reduceAdd, Nat.reduceLeDiff, h252, h253a, h253b, List.set_cons_succ, hm0, k3, g1, q3, hal, hDa, hDb, hEa, hEb, t1, t2, hlk, bne_self_eq_false]; (first | done | rfl))
    | ((first | apply g_T | apply g_F | apply g_gT | apply g_gF); · intro q1_; (first | intro q2_ | have q2_ := q1_); simp only [go_sem, Nat.reduceEqDiff, Nat.reduceAdd, Nat.reduceLeDiff, h252, h253a, h253b, List.set_cons_succ, hm0, k3, g1, q3, hal, hDa, hDb, hEa, hEb, t1, t2, hlk, bne_self_eq_false, q1_, q2_]; (first | done | rfl))
    | (apply w_condX; · simp only [go_sem, Nat.reduceEqDiff, Nat.reduceAdd, Nat.reduceLeDiff, h252, h253a, h253b, List.set_cons_succ, hm0, k3, g1, q3, hal, hDa, hDb, hEa, hEb, t1, t2, hlk, bne_self_eq_false]; (first | done | rfl)); (first | refine wcd_T ?_ | refine wcd_F ?_)
    | refine w_skip ?_ | refine w_exit ?_ | refine w_ret ?_
    | fail
    )
  exact ⟨by first | exact .inr rfl | exact .inr trivial | exact .inl rfl, by simp only [go_sem, Nat.reduceEqDiff, Nat.reduceAdd, Nat.reduceLeDiff, retOf, resOf, List.set_cons_succ]; first | done | rfl⟩
theorem a248 (H : Do9 env) (I : Has lji env) (L : Has ljj env) (M : Has ljk env) (hal : AV env 254 [] = some (.sc (.bool true))) {l0 : List Fl} (hl0 : l0.length ≤ 9223372036854775807) (a0 b0 : Op9) : AV env 248 [.agg [.sl (fls l0)], opV a0, opV b0] = some (.sc (.bool true)) := by
  have h252 := a252 I hl0
  have h253a := a253 I a0
  have h253b := a253 I b0
  have hl := fewF_len l0
  have hsm := fewF_sm l0
  have ha := cutO_sm a0
  have hb := cutO_sm b0
  generalize fewF l0 = l at h252 hl hsm
  generalize cutO a0 = a at h253a ha
  generalize cutO b0 = b at h253b hb
  have g1 := nmsO_get a b.n
  have g2 := nmsO_get a b.d
  obtain ⟨x, e, p1⟩ : ∃ x e, doS l a = (x, e) := ⟨(doS l a).1, (doS l a).2, rfl⟩
  obtain ⟨y, f, p2⟩ : ∃ x e, doS l b = (x, e) := ⟨(doS l b).1, (doS l b).2, rfl⟩
  obtain ⟨r, g, p3⟩ : ∃ r g, doS x b = (r, g) := ⟨(doS x b).1, (doS x b).2, rfl⟩
  obtain ⟨q, h, p4⟩ : ∃ q h, doS y a = (q, h) := ⟨(doS y a).1, (doS y a).2, rfl⟩
  cases t1 : tch a b.n with
  | true =>
    rw [t1, if_pos rfl] at g1
    cases k3 : (a.k == 3) with
    | true => exact a248_a1 H L M hal h252 h253a h253b hl hsm ha hb k3 g1
    | false => exact a248_b1 H L M hal h252 h253a h253b hl hsm ha hb k3 g1
  | false =>
    rw [t1, if_neg (by decide)] at g1
    cases t2 : ((b.k == 3) && tch a b.d) with
    | true =>
      rw [Bool.and_eq_true] at t2
      rw [t2.2, if_pos rfl] at g2
      cases k3 : (a.k == 3) with
      | true => exact a248_a2 H L M hal h252 h253a h253b hl hsm ha hb k3 g1 t2.1 g2
      | false => exact a248_b2 H L M hal h252 h253a h253b hl hsm ha hb k3 g1 t2.1 g2
    | false =>
      have hap : apart9 a b = true := by unfold apart9; rw [t1, t2]; rfl
      cases q3 : (b.k == 3) with
      | true =>
        rw [q3, Bool.true_and] at t2
        rw [t2, if_neg (by decide)] at g2
        cases k3 : (a.k == 3) with
        | true =>
          cases e1 : (e != 0) with
          | true => exact a248_a31 H L M hal h252 h253a h253b hl hsm ha hb k3 g1 q3 g2 p1 p2 e1
          | false =>
            have e1 : e = 0 := by simpa using e1
            cases f1 : (f != 0) with
            | true => exact a248_a32 H L M hal h252 h253a h253b hl hsm ha hb k3 g1 q3 g2 p1 p2 e1 f1
            | false =>
              have f1 : f = 0 := by simpa using f1
              cases u1 : (g == 13) with
              | true => exact a248_a33 H L M hal h252 h253a h253b hl hsm ha hb k3 g1 q3 g2 p1 p2 e1 f1 p3 p4 u1
              | false =>
                cases u2 : (h == 13) with
                | true => exact a248_a34 H L M hal h252 h253a h253b hl hsm ha hb k3 g1 q3 g2 p1 p2 e1 f1 p3 p4 u1 u2
                | false => exact a248_a35 H L M hal h252 h253a h253b hl hsm ha hb k3 g1 q3 g2 p1 p2 e1 f1 p3 p4 u1 u2 hap
        | false =>
          cases e1 : (e != 0) with
          | true => exact a248_b31 H L M hal h252 h253a h253b hl hsm ha hb k3 g1 q3 g2 p1 p2 e1
          | false =>
            have e1 : e = 0 := by simpa using e1
            cases f1 : (f != 0) with
            | true => exact a248_b32 H L M hal h252 h253a h253b hl hsm ha hb k3 g1 q3 g2 p1 p2 e1 f1
            | false =>
              have f1 : f = 0 := by simpa using f1
              cases u1 : (g == 13) with
              | true => exact a248_b33 H L M hal h252 h253a h253b hl hsm ha hb k3 g1 q3 g2 p1 p2 e1 f1 p3 p4 u1
              | false =>
                cases u2 : (h == 13) with
                | true => exact a248_b34 H L M hal h252 h253a h253b hl hsm ha hb k3 g1 q3 g2 p1 p2 e1 f1 p3 p4 u1 u2
                | false => exact a248_b35 H L M hal h252 h253a h253b hl hsm ha hb k3 g1 q3 g2 p1 p2 e1 f1 p3 p4 u1 u2 hap
      | false =>
        cases k3 : (a.k == 3) with
        | true =>
          cases e1 : (e != 0) with
          | true => exact a248_a41 H L M hal h252 h253a h253b hl hsm ha hb k3 g1 q3 p1 p2 e1
          | false =>
            have e1 : e = 0 := by simpa using e1
            cases f1 : (f != 0) with
            | true => exact a248_a42 H L M hal h252 h253a h253b hl hsm ha hb k3 g1 q3 p1 p2 e1 f1
            | false =>
              have f1 : f = 0 := by simpa using f1
              cases u1 : (g == 13) with
              | true => exact a248_a43 H L M hal h252 h253a h253b hl hsm ha hb k3 g1 q3 p1 p2 e1 f1 p3 p4 u1
              | false =>
                cases u2 : (h == 13) with
                | true => exact a248_a44 H L M hal h252 h253a h253b hl hsm ha hb k3 g1 q3 p1 p2 e1 f1 p3 p4 u1 u2
                | false => exact a248_a45 H L M hal h252 h253a h253b hl hsm ha hb k3 g1 q3 p1 p2 e1 f1 p3 p4 u1 u2 hap
        | false =>
          cases e1 : (e != 0) with
          | true => exact a248_b41 H L M hal h252 h253a h253b hl hsm ha hb k3 g1 q3 p1 p2 e1
          | false =>
            have e1 : e = 0 := by simpa using e1
            cases f1 : (f != 0) with
            | true => exact a248_b42 H L M hal h252 h253a h253b hl hsm ha hb k3 g1 q3 p1 p2 e1 f1
            | false =>
              have f1 : f = 0 := by simpa using f1
              cases u1 : (g == 13) with
              | true => exact a248_b43 H L M hal h252 h253a h253b hl hsm ha hb k3 g1 q3 p1 p2 e1 f1 p3 p4 u1
              | false =>
                cases u2 : (h == 13) with
                | true => exact a248_b44 H L M hal h252 h253a h253b hl hsm ha hb k3 g1 q3 p1 p2 e1 f1 p3 p4 u1 u2
                | false => exact a248_b45 H L M hal h252 h253a h253b hl hsm ha hb k3 g1 q3 p1 p2 e1 f1 p3 p4 u1 u2 hap
end

section
variable {P : Program}
def fieldsOf (P : Program) (t : TypeId) : List (Nat × TypeId) := match P.underlying t with
  | some (.struct fs) => fs.toList.map fun f => (f.offset, f.type)
  | _ => []
theorem Is.fields {t : TypeId} {ps : List PV} (h : Is P t ps) (ha : isAgg P t = true) : ps.length = P.cellsOf t ∧ ∀ q ∈ fieldsOf P t, Is P q.2 ((ps.drop q.1).take (P.cellsOf q.2)) := by
  unfold isAgg at ha
  split at ha
  · rename_i fs hu
    obtain ⟨h1, h2⟩ := h.st' hu
    refine ⟨h1, fun q hq => ?_⟩
    simp only [fieldsOf, hu, List.mem_map] at hq
    obtain ⟨f, hf, rfl⟩ := hq
    obtain ⟨i, hi⟩ := List.getElem?_of_mem hf
    exact h2 i f (by simpa using hi)
  · cases ha
theorem str_of {t : TypeId} {p : PV} (h : Is P t [p]) (hk : (match P.underlying t with | some .string => true | _ => false) = true) : ∃ s : ByteArray, p = .sc (.string s) ∧ s.size ≤ reachBytes := by
  split at hk
  · rename_i hu
    obtain ⟨s, hs, h2⟩ := h.str' hu
    simp only [List.cons.injEq, and_true] at hs
    exact ⟨s, hs, h2⟩
  · cases hk
end

end Go.Proofs.YtemoboghbdcjkaaDoorPv
