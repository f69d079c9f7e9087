/-
Own texts of the proof, merged: part 3.
-/
import Derived.Test.YtckcgppnppiccaaGreatDoorPkRulesReadB
import Derived.Test.YtckcgppnppiccaaGreatDoorPvL
import Derived.HandedShaped
namespace Go.Proofs.YtckcgppnppiccaaGreatDoorPv
open Go
set_option linter.unusedSimpArgs false
set_option linter.unusedVariables false
set_option maxHeartbeats 4000000
set_option maxRecDepth 8000
attribute [local go_sem ↓] e_mv e_pick e_bin e_eqs e_beq e_un e_cvi e_str e_s2b e_b2s e_box e_build e_bsl e_ld e_st e_nck e_mkf e_slcS e_slcL e_fa e_fld e_ia e_iaa e_ix e_ixa e_ext e_lenS e_lenL e_mnmx e_app e_appb e_bbx e_msl e_clr e_call e_callv e_slcA e_mkm e_mput e_mget e_mlen e_mdel pa_t pa_c pa_f slcSP_str hiOf_some hiOf_none loOf_some loOf_none set_eq set_ne
attribute [local go_sem] pv pv1 simple frOf_0 frOf_1 frOf_2 frOf_3 frOf_4 frOf_5 ne_eq not_false_eq_true if_true Bool.false_eq_true if_false pbin punary Option.map_some Option.bind_some pick_and pick_or opt_true Bool.true_and Bool.and_self Bool.and_true Bool.true_or Bool.false_or Bool.not_true Bool.not_false callE pcall_eq List.map_cons List.map_nil List.append_nil List.nil_append List.cons_append mapM_cons' mapM_nil' dep_eq fz_sc fz_sl fz_em fz_fn fz_fp fz_agg fz_tu fz_bx fz_ob Nat.lt_irrefl Nat.zero_lt_one Nat.lt_add_one flat clL cl Bool.or_true okc_sc okc_em okc_sl okc_ob okc_bx okc_fp okc_fn okc_agg okc_ifc cells_agg cells_sc cells_sl cells_em cells_ob cells_fn cells_bx cells_fp List.length_cons List.length_nil Nat.zero_add and_self true_and and_true new_m new_c put_m put_c nil_m nil_c nil_mm new_mm put_mm newM_m newM_c newM_mm putM_m putM_c putM_mm mkeyV_1 mkeyV_2 mapAt_eq deref List.getElem?_cons_zero List.getElem?_cons_succ List.drop_zero List.drop_succ_cons List.take_succ_cons List.take_zero Nat.le_refl false_and and_false decide_true decide_false lenP_em lenP_nil lenP_sl lenP_ob Int.ofNat_zero
def d208 : Def := (.code 1 [.tmp 2, .tmp 3] (.seq (.rg false [⟨.some 2, .none, .mv (.c (.slice .none 0 0))⟩, ⟨.some 3, .none, .mv (.c (.bool false))⟩]) (.seq (.rg false [⟨.some 8, .none, .mv (.c (.slice .none 0 0))⟩, ⟨.some 4, .none, .mv (.t 8)⟩]) (.seq (.seq (.rg false [⟨.some 9, .none, .mv (.t 0)⟩, ⟨.some 10, .none, .bin .eql (.t 9) (.c (.string ⟨#[123, 125]⟩))⟩]) (.cond (.t 10) (.seq (.rg false [⟨.some 11, .none, .mv (.t 4)⟩, ⟨.some 2, .none, .mv (.t 11)⟩, ⟨.some 3, .none, .mv (.c (.bool true))⟩]) .ret) .skip)) (.seq (.rg false [⟨.some 5, .none, .mv (.c (.int .i64 0))⟩]) (.seq (.block 0 (.loop (.seq (.seq (.rg false [⟨.some 12, .none, .mv (.t 5)⟩, ⟨.some 13, .none, .mv (.t 0)⟩, ⟨.some 14, .none, .lenS (.t 13)⟩, ⟨.some 15, .none, .bin .lss (.t 12) (.t 14)⟩, ⟨.some 16, .none, .mv (.t 15)⟩, ⟨.some 17, .some (16, true), .mv (.t 4)⟩, ⟨.some 18, .some (16, true), .lenL (.t 17)⟩, ⟨.some 19, .some (16, true), .bin .lss (.t 18) (.c (.int .i64 9))⟩, ⟨.some 20, .none, .pick (.t 16) (.t 19) (.c (.bool false))⟩]) (.cond (.t 20) .skip (.exit 0))) (.block 1 (.seq (.rg false [⟨.some 6, .none, .mv (.c (.int .u8 44))⟩]) (.seq (.seq (.rg false [⟨.some 21, .none, .mv (.t 5)⟩, ⟨.some 22, .none, .bin .eql (.t 21) (.c (.int .i64 0))⟩]) (.cond (.t 22) (.rg false [⟨.some 6, .none, .mv (.c (.int .u8 123))⟩]) .skip)) (.seq (.seq (.rg false [⟨.some 23, .none, .mv (.t 0)⟩, ⟨.some 24, .none, .mv (.t 5)⟩, ⟨.some 25, .none, .ix (.t 23) (.t 24)⟩, ⟨.some 26, .none, .mv (.t 6)⟩, ⟨.some 27, .none, .bin .neq (.t 25) (.t 26)⟩]) (.cond (.t 27) (.exit 0) .skip)) (.seq (.rg false [⟨.some 28, .none, .mv (.t 0)⟩, ⟨.some 29, .none, .mv (.t 5)⟩, ⟨.some 30, .none, .bin .add (.t 29) (.c (.int .i64 1))⟩, ⟨.some 31, .none, .call 214 .pure [.t 28, .t 30]⟩, ⟨.some 7, .none, .box (.c (.agg #[.string ⟨#[]⟩, .string ⟨#[]⟩, .int .i64 0]))⟩, ⟨.none, .none, .st 3 (.t 7) (.t 31)⟩]) (.seq (.seq (.rg false [⟨.some 32, .none, .fa 2 (.t 7)⟩, ⟨.some 33, .none, .ld .none (.t 32)⟩, ⟨.some 34, .none, .bin .lss (.t 33) (.c (.int .i64 0))⟩]) (.cond (.t 34) (.seq (.rg false [⟨.some 2, .none, .mv (.c (.slice .none 0 0))⟩, ⟨.some 3, .none, .mv (.c (.bool false))⟩]) .ret) .skip)) (.seq (.rg false [⟨.some 35, .none, .mv (.t 4)⟩, ⟨.some 36, .none, .fa 0 (.t 7)⟩, ⟨.some 37, .none, .ld (.some 2) (.t 36)⟩, ⟨.some 38, .none, .bsl 2 (.agg #[.string ⟨#[]⟩, .string ⟨#[]⟩]) 1 [(0, .t 37)]⟩, ⟨.some 39, .none, .app 2 32 false (.t 35) (.t 38)⟩, ⟨.some 4, .none, .mv (.t 39)⟩]) (.rg false [⟨.some 40, .none, .fa 2 (.t 7)⟩, ⟨.some 41, .none, .ld .none (.t 40)⟩, ⟨.some 5, .none, .mv (.t 41)⟩]))))))))))) (.seq (.seq (.rg false [⟨.some 42, .none, .mv (.t 5)⟩, ⟨.some 43, .none, .mv (.t 0)⟩, ⟨.some 44, .none, .lenS (.t 43)⟩, ⟨.some 45, .none, .bin .sub (.t 44) (.c (.int .i64 1))⟩, ⟨.some 46, .none, .bin .neq (.t 42) (.t 45)⟩, ⟨.some 47, .none, .mv (.t 46)⟩, ⟨.some 48, .some (47, false), .mv (.t 0)⟩, ⟨.some 49, .some (47, false), .mv (.t 5)⟩, ⟨.some 50, .some (47, false), .ix (.t 48) (.t 49)⟩, ⟨.some 51, .some (47, false), .bin .neq (.t 50) (.c (.int .u8 125))⟩, ⟨.some 52, .none, .pick (.t 47) (.c (.bool true)) (.t 51)⟩, ⟨.some 53, .none, .mv (.t 52)⟩, ⟨.some 54, .some (53, false), .mv (.t 4)⟩, ⟨.some 55, .some (53, false), .call 110 .pure [.t 54]⟩, ⟨.some 56, .some (53, false), .un .not (.t 55)⟩, ⟨.some 57, .none, .pick (.t 53) (.c (.bool true)) (.t 56)⟩, ⟨.some 58, .none, .mv (.t 57)⟩, ⟨.some 59, .some (58, false), .mv (.t 4)⟩, ⟨.some 60, .some (58, false), .call 211 .pure [.t 59]⟩, ⟨.some 61, .some (58, false), .mv (.t 0)⟩, ⟨.some 62, .some (58, false), .bin .neq (.t 60) (.t 61)⟩, ⟨.some 63, .none, .pick (.t 58) (.c (.bool true)) (.t 62)⟩]) (.cond (.t 63) (.seq (.rg false [⟨.some 2, .none, .mv (.c (.slice .none 0 0))⟩, ⟨.some 3, .none, .mv (.c (.bool false))⟩]) .ret) .skip)) (.seq (.rg false [⟨.some 64, .none, .mv (.t 4)⟩, ⟨.some 2, .none, .mv (.t 64)⟩, ⟨.some 3, .none, .mv (.c (.bool true))⟩]) .ret))))))))
def lcf : List (Nat × Def) := [(208, d208)]
section
variable {env : Nat → Option Def} {fr : Fr} {σ σ' σ'' : St} {K : Fr → St → Prop} {Q : X → Fr → St → Prop} {p : PV} {bs : List UInt8}
def plR : Nat → Bool → List UInt8 → List Lab → Option (List UInt8 × List Lab)
  | 0, _, rest, out => some (rest, out)
  | _ + 1, _, [], out => some ([], out)
  | k + 1, b, c :: r, out => if c ≠ (if b then 123 else 44) then some (c :: r, out) else (oneR r).bind fun q => plR k false q.2.2 (out ++ [mkLab q.1 q.2.1])
def parseR (s : List UInt8) : List Lab × Bool := if s = [123, 125] then ([], true) else match plR 9 true s [] with
  | some (rest, out) => if rest = [125] ∧ rightL out = true ∧ (textS out).data.toList = s then (out, true) else ([], false)
  | none => ([], false)
theorem scan_suffix : ∀ (k : Nat) (s acc v r : List UInt8), s.length ≤ k → scan s acc = some (v, r) → ∃ u, u ++ r = s
  | _, [], acc, v, r, _, h => by simp [scan] at h
  | _, [c], acc, v, r, _, h => by
    simp only [scan] at h
    split at h
    · simp only [Option.some.injEq, Prod.mk.injEq] at h
      obtain ⟨rfl, rfl⟩ := h
      exact ⟨[c], rfl⟩
    · cases h
  | 0, c :: d :: s, acc, v, r, hk, h => by simp at hk
  | k + 1, c :: d :: s, acc, v, r, hk, h => by
    simp only [scan] at h
    simp only [List.length_cons] at hk
    split at h
    · simp only [Option.some.injEq, Prod.mk.injEq] at h
      obtain ⟨rfl, rfl⟩ := h
      exact ⟨[c], rfl⟩
    · split at h
      · obtain ⟨u, hu⟩ := scan_suffix k s _ v r (by omega) h
        exact ⟨c :: d :: u, by simp [hu]⟩
      · obtain ⟨u, hu⟩ := scan_suffix k (d :: s) _ v r (by simp; omega) h
        exact ⟨c :: u, by simp [hu]⟩
theorem oneR_le {s n v r : List UInt8} (h : oneR s = some (n, v, r)) : n.length ≤ s.length ∧ v.length ≤ s.length ∧ r.length ≤ s.length ∧ r = s.drop (s.length - r.length) := by
  unfold oneR at h
  split at h
  · rename_i t ht
    obtain ⟨q, hq, h⟩ := Option.map_eq_some_iff.1 h
    simp only [Prod.mk.injEq] at h
    obtain ⟨rfl, rfl, rfl⟩ := h
    have h1 := scan_le _ _ _ q.1 q.2 (Nat.le_refl _) hq
    have h2 := congrArg List.length ht
    simp at h1 h2
    have h3 := scan_suffix _ _ _ _ _ (Nat.le_refl _) hq
    have h4 : t = s.drop (eqAt s + 2) := by rw [← List.drop_drop, ht]; rfl
    refine ⟨by simp; omega, by omega, by omega, ?_⟩
    obtain ⟨u, hu⟩ := h3
    have hl := congrArg List.length hu
    rw [h4, List.length_append, List.length_drop] at hl
    have : q.2 = (s.drop (eqAt s + 2)).drop u.length := by rw [← h4, ← hu]; simp
    rw [List.drop_drop] at this
    conv => lhs; rw [this]
    congr 1
    omega
  · cases h
theorem oneR_mark {n v t : List UInt8} (h : NoEq n) : oneR (n ++ 61 :: 34 :: (esc v ++ 34 :: t)) = some (n, v, t) := by
  have he : eqAt (n ++ 61 :: 34 :: (esc v ++ 34 :: t)) = n.length := by
    unfold eqAt
    rw [List.takeWhile_append_of_pos (by simpa [NoEq] using h)]
    simp
  unfold oneR
  rw [he]
  simp only [List.drop_left, List.take_left', List.drop_append]
  simp [scan_esc']
theorem plR_tail : ∀ (k : Nat) (l out : List Lab), (∀ m ∈ l, NoEq m.1.data.toList) → l.length < k → plR k false (tailB l) out = some ([125], out ++ l)
  | 0, l, out, _, hk => by omega
  | k + 1, [], out, _, _ => by simp [plR, tailB]
  | k + 1, m :: r, out, h, hk => by
    have hm := h m (by simp)
    simp only [tailB, plR]
    rw [if_neg (by decide), oneR_mark hm, Option.bind_some, mk_eta, plR_tail k r (out ++ [m]) (fun x hx => h x (by simp [hx])) (by simp at hk; omega)]
    simp
theorem parseR_text {l : List Lab} (h : rightL l = true) : parseR (textS l).data.toList = (l, true) := by
  have hne := right_noEq h
  obtain ⟨_, _, h8⟩ := right_iff.1 h
  cases l with
  | nil => rfl
  | cons m r =>
    have ht : (textS (m :: r)).data.toList = 123 :: (m.1.data.toList ++ 61 :: 34 :: (esc m.2.data.toList ++ 34 :: tailB r)) := by rw [text_bytes]; rfl
    have hp : plR 9 true (textS (m :: r)).data.toList [] = some ([125], m :: r) := by
      rw [ht, plR, if_neg (by decide), oneR_mark (hne m (by simp)), Option.bind_some, mk_eta]
      exact plR_tail 8 r [m] (fun x hx => hne x (by simp [hx])) (by simp at h8; omega)
    unfold parseR
    rw [if_neg, hp]
    · simp only
      rw [if_pos ⟨trivial, h, trivial⟩]
    · rw [ht]
      intro e
      have := congrArg List.length e
      simp at this
      omega
theorem parseR_ok {s : List UInt8} {l : List Lab} (h : parseR s = (l, true)) : rightL l = true ∧ (textS l).data.toList = s := by
  unfold parseR at h
  split at h
  · rename_i e
    simp only [Prod.mk.injEq, and_true] at h
    subst h; subst e
    exact ⟨rfl, rfl⟩
  · split at h
    · split at h
      · rename_i hq
        simp only [Prod.mk.injEq, and_true] at h
        subst h
        exact hq.2
      · simp at h
    · simp at h
theorem parse_same (s : List UInt8) : (parseR s).2 = ((parseS s).2 == 0) ∧ ((parseS s).2 = 0 → (parseS s).1 = (parseR s).1) := by
  by_cases h : (parseS s).2 = 0
  · have e : parseS s = ((parseS s).1, 0) := by rw [← h]
    obtain ⟨h1, h2⟩ := parse_ok e
    have := parseR_text h1
    rw [h2] at this
    rw [this, h]
    exact ⟨rfl, fun _ => rfl⟩
  · refine ⟨?_, fun e => absurd e h⟩
    cases hr : (parseR s).2 with
    | false => simp [h]
    | true =>
      exfalso
      have e : parseR s = ((parseR s).1, true) := by rw [← hr]
      obtain ⟨h1, h2⟩ := parseR_ok e
      have := parse_text h1
      rw [h2] at this
      rw [this] at h
      exact h rfl
theorem last_is {s : List UInt8} {i : Nat} (hi : i ≤ s.length) : decide (s.drop i = [125]) = (!((i : Int) != (s.length : Int) - 1) && !(byteD s i != 125)) := by
  rw [Bool.eq_iff_iff]
  simp only [decide_eq_true_eq, Bool.and_eq_true, Bool.not_eq_true', bne_eq_false_iff_eq]
  constructor
  · intro h
    have hl := congrArg List.length h
    simp at hl
    have hlt : i < s.length := by omega
    rw [drop_at hlt] at h
    rw [byteD_at hlt]
    exact ⟨by omega, (List.cons.inj h).1⟩
  · rintro ⟨h1, h2⟩
    have hlt : i < s.length := by omega
    rw [byteD_at hlt] at h2
    rw [drop_at hlt, h2, List.drop_eq_nil_of_le (by omega)]
theorem ab_size {l : List Lab} (h : rightL l = true) : ∀ m ∈ l, m.1.size ≤ 64 ∧ m.2.size ≤ 64 := fun m hm => may_size ((right_iff.1 h).1 m hm)
theorem a208 (L : Has ll0 env) (M : Has lm0 env) (U : Has lu env) (E : Has lce env) (F : Has lcf env) {s : List UInt8} (hs : s.length ≤ 1000000) :
    AV env 208 [txt s] = some (.tu [.sl (labs (parseR s).1), .sc (.bool (parseR s).2)]) := by
  refine AV_wp (F (208, d208) (by simp [lcf])) rfl ?_
  (repeat' first
    | refine w_seq ?_ | refine w_rg ?_ | refine wo_nil ?_ | refine g_skU ?_ | refine g_skT ?_ | refine g_skF ?_
    | ((first | apply s_plain | apply s_void | apply s_guard | apply g_goT | apply g_goF); · simp only [go_sem, Nat.reduceEqDiff, Nat.reduceAdd, Nat.reduceLeDiff, ba_data, ba_size, ba_toList, ba_extract, ba_append, List.toList_toArray]; (first | done | rfl))
    | ((first | apply g_T | apply g_F | apply g_gT | apply g_gF); · intro q1_; (first | intro q2_ | have q2_ := q1_); simp only [go_sem, Nat.reduceEqDiff, Nat.reduceAdd, Nat.reduceLeDiff, ba_data, ba_size, ba_toList, ba_extract, ba_append, List.toList_toArray, q1_, q2_]; (first | done | rfl))
    | fail
    )
  refine w_condB (b := s == [123, 125]) (by simp only [go_sem, Nat.reduceEqDiff, Nat.reduceAdd, Nat.reduceLeDiff]; first | done | rfl) (fun hc => ?_) (fun hc => ?_)
  · have hb : parseR s = ([], true) := by unfold parseR; rw [if_pos (by simpa using hc)]
    (repeat' first
    | refine w_seq ?_ | refine w_rg ?_ | refine wo_nil ?_ | refine g_skU ?_ | refine g_skT ?_ | refine g_skF ?_
    | ((first | apply s_plain | apply s_void | apply s_guard | apply g_goT | apply g_goF); · simp only [go_sem, Nat.reduceEqDiff, Nat.reduceAdd, Nat.reduceLeDiff]; (first | done | rfl))
    | ((first | apply g_T | apply g_F | apply g_gT | apply g_gF); · intro q1_; (first | intro q2_ | have q2_ := q1_); simp only [go_sem, Nat.reduceEqDiff, Nat.reduceAdd, Nat.reduceLeDiff, q1_, q2_]; (first | done | rfl))
    | (apply w_condX; · simp only [go_sem, Nat.reduceEqDiff, Nat.reduceAdd, Nat.reduceLeDiff]; (first | done | rfl)); (first | refine wcd_T ?_ | refine wcd_F ?_)
    | refine w_skip ?_ | refine w_exit ?_ | refine w_ret ?_
    | fail
    )
    exact ⟨by first | exact .inr rfl | exact .inr trivial | exact .inl rfl, by simp only [go_sem, Nat.reduceEqDiff, Nat.reduceAdd, Nat.reduceLeDiff, retOf, resOf, hb, labs]; first | done | rfl⟩
  · have hpr : parseR s = match plR 9 true s [] with
        | some (rest, out) => if rest = [125] ∧ rightL out = true ∧ (textS out).data.toList = s then (out, true) else ([], false)
        | none => ([], false) := by unfold parseR; rw [if_neg (by simpa using hc)]
    (repeat' first
    | refine w_seq ?_ | refine w_rg ?_ | refine wo_nil ?_ | refine g_skU ?_ | refine g_skT ?_ | refine g_skF ?_
    | ((first | apply s_plain | apply s_void | apply s_guard | apply g_goT | apply g_goF); · simp only [go_sem, Nat.reduceEqDiff, Nat.reduceAdd, Nat.reduceLeDiff]; (first | done | rfl))
    | ((first | apply g_T | apply g_F | apply g_gT | apply g_gF); · intro q1_; (first | intro q2_ | have q2_ := q1_); simp only [go_sem, Nat.reduceEqDiff, Nat.reduceAdd, Nat.reduceLeDiff, q1_, q2_]; (first | done | rfl))
    | (apply w_condX; · simp only [go_sem, Nat.reduceEqDiff, Nat.reduceAdd, Nat.reduceLeDiff]; (first | done | rfl)); (first | refine wcd_T ?_ | refine wcd_F ?_)
    | refine w_skip ?_ | refine w_exit ?_ | refine w_ret ?_
    | fail
    )
    refine Wp.mono (Q := fun x fr τ => match x with
      | .normal => ∃ (i : Nat) (out : List Lab), fr 0 = txt s ∧ fr 5 = .sc (.int .i64 i) ∧ Gat τ [39] 2 false (fr 4) (labs out) ∧ i ≤ s.length ∧ (∀ m ∈ out, m.1.size ≤ s.length ∧ m.2.size ≤ s.length) ∧ out.length ≤ 9 ∧ plR 9 true s [] = some (s.drop i, out)
      | .ret => (retOf fr τ [.tmp 2, .tmp 3]).bind (fz τ dep) = some (.tu [.sl (labs (parseR s).1), .sc (.bool (parseR s).2)])
      | .exit _ => False) ?_ ?_
    refine w_block (w_loopF (fun m fr σ => ∃ (i : Nat) (out : List Lab), m + out.length = 9 ∧ i ≤ s.length ∧ fr 5 = .sc (.int .i64 i) ∧ Gat σ [39] 2 false (fr 4) (labs out) ∧ (out = [] ↔ i = 0) ∧ (∀ m ∈ out, m.1.size ≤ s.length ∧ m.2.size ≤ s.length) ∧
      plR 9 true s [] = plR m (decide (i = 0)) (s.drop i) out) ?_ 9 ?_)
    · rintro m fr1 σ1 ⟨i, out, hk, hi, f5, hg, hz, hsm, hpl⟩ hfr
      have f0_0 := hfr 0 rfl; try (simp only [go_sem, Nat.reduceEqDiff, Nat.reduceAdd, Nat.reduceLeDiff] at f0_0)
      have z0 : fr1 0 = txt s := by rw [hfr 0 rfl]; simp only [go_sem, Nat.reduceEqDiff, Nat.reduceAdd, Nat.reduceLeDiff]
      have hlp := hg.lenP
      rw [labs_len] at hlp
      generalize hp : fr1 4 = p at hg hlp
      (repeat' first
    | refine w_seq ?_ | refine w_rg ?_ | refine wo_nil ?_ | refine g_skU ?_ | refine g_skT ?_ | refine g_skF ?_
    | ((first | apply s_plain | apply s_void | apply s_guard | apply g_goT | apply g_goF); · simp only [go_sem, Nat.reduceEqDiff, Nat.reduceAdd, Nat.reduceLeDiff, f0_0, f5, hp, hlp, ba_data, ba_size, ba_toList, ba_extract, ba_append, List.toList_toArray]; (first | done | rfl))
    | ((first | apply g_T | apply g_F | apply g_gT | apply g_gF); · intro q1_; (first | intro q2_ | have q2_ := q1_); simp only [go_sem, Nat.reduceEqDiff, Nat.reduceAdd, Nat.reduceLeDiff, f0_0, f5, hp, hlp, ba_data, ba_size, ba_toList, ba_extract, ba_append, List.toList_toArray, q1_, q2_]; (first | done | rfl))
    | fail
    )
      refine w_condB (b := decide ((i : Int) < (s.length : Int)) && decide ((out.length : Int) < 9)) (by simp only [go_sem, Nat.reduceEqDiff, Nat.reduceAdd, Nat.reduceLeDiff]; first | done | rfl) (fun hc => ?_) (fun hc => ?_)
      · simp only [Bool.and_eq_true, decide_eq_true_eq] at hc
        have hlt : i < s.length := by omega
        have hi0 : (0 : Int) ≤ (i : Int) := by omega
        obtain ⟨m', rfl⟩ : ∃ m', m = m' + 1 := ⟨m - 1, by omega⟩
        have w1 : IntKind.i64.wrap ((i : Int) + 1) = ((i + 1 : Nat) : Int) := by rw [IntKind.wrap_i64]; omega
        have hpl1 := hpl.trans (show plR (m' + 1) (decide (i = 0)) (s.drop i) out = if s[i] ≠ (if decide (i = 0) then 123 else 44) then some (s.drop i, out) else (oneR (s.drop (i + 1))).bind fun q => plR m' false q.2.2 (out ++ [mkLab q.1 q.2.1]) by rw [drop_at hlt, plR])
        refine w_skip ?_
        refine w_block ?_
        refine w_seq (w_rg (s_plain (by simp only [go_sem, Nat.reduceEqDiff, Nat.reduceAdd, Nat.reduceLeDiff]; first | done | rfl) (wo_nil ?_)))
        refine w_seq ?_
        refine Wp.mono (Q := fun x fr τ => x = .normal ∧ fr 0 = txt s ∧ fr 5 = .sc (.int .i64 i) ∧ fr 4 = p ∧ fr 6 = .sc (.int .u8 (if decide (i = 0) = true then (123 : UInt8) else 44).toNat) ∧ τ = σ1) ?_ ?_
        · (repeat' first
    | refine w_seq ?_ | refine w_rg ?_ | refine wo_nil ?_ | refine g_skU ?_ | refine g_skT ?_ | refine g_skF ?_
    | ((first | apply s_plain | apply s_void | apply s_guard | apply g_goT | apply g_goF); · simp only [go_sem, Nat.reduceEqDiff, Nat.reduceAdd, Nat.reduceLeDiff, f5]; (first | done | rfl))
    | ((first | apply g_T | apply g_F | apply g_gT | apply g_gF); · intro q1_; (first | intro q2_ | have q2_ := q1_); simp only [go_sem, Nat.reduceEqDiff, Nat.reduceAdd, Nat.reduceLeDiff, f5, q1_, q2_]; (first | done | rfl))
    | fail
    )
          refine w_condB (b := decide (i = 0)) (by simp only [go_sem, Nat.reduceEqDiff, Nat.reduceAdd, Nat.reduceLeDiff]; congr 2; rw [Bool.eq_iff_iff]; simp) (fun he => ?_) (fun he => ?_)
          · (repeat' first
    | refine w_seq ?_ | refine w_rg ?_ | refine wo_nil ?_ | refine g_skU ?_ | refine g_skT ?_ | refine g_skF ?_
    | ((first | apply s_plain | apply s_void | apply s_guard | apply g_goT | apply g_goF); · simp only [go_sem, Nat.reduceEqDiff, Nat.reduceAdd, Nat.reduceLeDiff]; (first | done | rfl))
    | ((first | apply g_T | apply g_F | apply g_gT | apply g_gF); · intro q1_; (first | intro q2_ | have q2_ := q1_); simp only [go_sem, Nat.reduceEqDiff, Nat.reduceAdd, Nat.reduceLeDiff, q1_, q2_]; (first | done | rfl))
    | (apply w_condX; · simp only [go_sem, Nat.reduceEqDiff, Nat.reduceAdd, Nat.reduceLeDiff]; (first | done | rfl)); (first | refine wcd_T ?_ | refine wcd_F ?_)
    | refine w_skip ?_ | refine w_exit ?_ | refine w_ret ?_
    | fail
    )
            refine ⟨rfl, by simp only [go_sem, Nat.reduceEqDiff, Nat.reduceAdd, Nat.reduceLeDiff, z0], by simp only [go_sem, Nat.reduceEqDiff, Nat.reduceAdd, Nat.reduceLeDiff, f5], by simp only [go_sem, Nat.reduceEqDiff, Nat.reduceAdd, Nat.reduceLeDiff, hp], by simp only [go_sem, Nat.reduceEqDiff, Nat.reduceAdd, Nat.reduceLeDiff, he]; rfl, rfl⟩
          · (repeat' first
    | refine w_seq ?_ | refine w_rg ?_ | refine wo_nil ?_ | refine g_skU ?_ | refine g_skT ?_ | refine g_skF ?_
    | ((first | apply s_plain | apply s_void | apply s_guard | apply g_goT | apply g_goF); · simp only [go_sem, Nat.reduceEqDiff, Nat.reduceAdd, Nat.reduceLeDiff]; (first | done | rfl))
    | ((first | apply g_T | apply g_F | apply g_gT | apply g_gF); · intro q1_; (first | intro q2_ | have q2_ := q1_); simp only [go_sem, Nat.reduceEqDiff, Nat.reduceAdd, Nat.reduceLeDiff, q1_, q2_]; (first | done | rfl))
    | (apply w_condX; · simp only [go_sem, Nat.reduceEqDiff, Nat.reduceAdd, Nat.reduceLeDiff]; (first | done | rfl)); (first | refine wcd_T ?_ | refine wcd_F ?_)
    | refine w_skip ?_ | refine w_exit ?_ | refine w_ret ?_
    | fail
    )
            refine ⟨rfl, by simp only [go_sem, Nat.reduceEqDiff, Nat.reduceAdd, Nat.reduceLeDiff, z0], by simp only [go_sem, Nat.reduceEqDiff, Nat.reduceAdd, Nat.reduceLeDiff, f5], by simp only [go_sem, Nat.reduceEqDiff, Nat.reduceAdd, Nat.reduceLeDiff, hp], by simp only [go_sem, Nat.reduceEqDiff, Nat.reduceAdd, Nat.reduceLeDiff, he]; rfl, rfl⟩
        · rintro x fr2 τ ⟨rfl, k0, k5, k4, k6, rfl⟩
          generalize (if decide (i = 0) = true then (123 : UInt8) else 44) = sg at *
          (repeat' first
    | refine w_seq ?_ | refine w_rg ?_ | refine wo_nil ?_ | refine g_skU ?_ | refine g_skT ?_ | refine g_skF ?_
    | ((first | apply s_plain | apply s_void | apply s_guard | apply g_goT | apply g_goF); · simp only [go_sem, Nat.reduceEqDiff, Nat.reduceAdd, Nat.reduceLeDiff, k0, k5, k6, ba_data, ba_size, ba_toList, ba_extract, ba_append, List.toList_toArray, hi0, Int.toNat_natCast, byteD_q hlt]; (first | done | rfl))
    | ((first | apply g_T | apply g_F | apply g_gT | apply g_gF); · intro q1_; (first | intro q2_ | have q2_ := q1_); simp only [go_sem, Nat.reduceEqDiff, Nat.reduceAdd, Nat.reduceLeDiff, k0, k5, k6, ba_data, ba_size, ba_toList, ba_extract, ba_append, List.toList_toArray, hi0, Int.toNat_natCast, byteD_q hlt, q1_, q2_]; (first | done | rfl))
    | fail
    )
          refine w_condB (b := s[i] != sg) (by simp only [go_sem, Nat.reduceEqDiff, Nat.reduceAdd, Nat.reduceLeDiff]; rw [u8_ne _ sg rfl, byteD_at hlt]) (fun he => ?_) (fun he => ?_)
          · have he : s[i] ≠ sg := by simpa using he
            rw [if_pos he] at hpl1
            (repeat' first
    | refine w_seq ?_ | refine w_rg ?_ | refine wo_nil ?_ | refine g_skU ?_ | refine g_skT ?_ | refine g_skF ?_
    | ((first | apply s_plain | apply s_void | apply s_guard | apply g_goT | apply g_goF); · simp only [go_sem, Nat.reduceEqDiff, Nat.reduceAdd, Nat.reduceLeDiff]; (first | done | rfl))
    | ((first | apply g_T | apply g_F | apply g_gT | apply g_gF); · intro q1_; (first | intro q2_ | have q2_ := q1_); simp only [go_sem, Nat.reduceEqDiff, Nat.reduceAdd, Nat.reduceLeDiff, q1_, q2_]; (first | done | rfl))
    | (apply w_condX; · simp only [go_sem, Nat.reduceEqDiff, Nat.reduceAdd, Nat.reduceLeDiff]; (first | done | rfl)); (first | refine wcd_T ?_ | refine wcd_F ?_)
    | refine w_skip ?_ | refine w_exit ?_ | refine w_ret ?_
    | fail
    )
            try simp only [if_true]
            exact ⟨i, out, by simp only [go_sem, Nat.reduceEqDiff, Nat.reduceAdd, Nat.reduceLeDiff, k0], by simp only [go_sem, Nat.reduceEqDiff, Nat.reduceAdd, Nat.reduceLeDiff, k5], by simp only [go_sem, Nat.reduceEqDiff, Nat.reduceAdd, Nat.reduceLeDiff, k4]; exact hg, hi, hsm, by omega, hpl1⟩
          · have he : s[i] = sg := by simpa using he
            rw [if_neg (by simpa using he)] at hpl1
            have h214 := a214 E (s := s) (a := i + 1) (by omega) (by omega)
            cases hone : oneR (s.drop (i + 1)) with
            | none =>
              rw [hone] at hpl1
              have hb : parseR s = ([], false) := by rw [hpr, hpl1]; rfl
              rw [show oneB s (i + 1) = .agg [txt [], txt [], .sc (.int .i64 (-1))] by unfold oneB; rw [hone]] at h214
              (repeat' first
    | refine w_seq ?_ | refine w_rg ?_ | refine wo_nil ?_ | refine g_skU ?_ | refine g_skT ?_ | refine g_skF ?_
    | ((first | apply s_plain | apply s_void | apply s_guard | apply g_goT | apply g_goF); · simp only [go_sem, Nat.reduceEqDiff, Nat.reduceAdd, Nat.reduceLeDiff, k0, k5, w1, h214, splice, fillP, fillE, List.modify_zero_cons, List.replicate_succ, List.replicate_zero, List.set_cons_zero, List.drop_zero]; (first | done | rfl))
    | ((first | apply g_T | apply g_F | apply g_gT | apply g_gF); · intro q1_; (first | intro q2_ | have q2_ := q1_); simp only [go_sem, Nat.reduceEqDiff, Nat.reduceAdd, Nat.reduceLeDiff, k0, k5, w1, h214, splice, fillP, fillE, List.modify_zero_cons, List.replicate_succ, List.replicate_zero, List.set_cons_zero, List.drop_zero, q1_, q2_]; (first | done | rfl))
    | (apply w_condX; · simp only [go_sem, Nat.reduceEqDiff, Nat.reduceAdd, Nat.reduceLeDiff, k0, k5, w1, h214, splice, fillP, fillE, List.modify_zero_cons, List.replicate_succ, List.replicate_zero, List.set_cons_zero, List.drop_zero]; (first | done | rfl)); (first | refine wcd_T ?_ | refine wcd_F ?_)
    | refine w_skip ?_ | refine w_exit ?_ | refine w_ret ?_
    | fail
    )
              simp only [go_sem, Nat.reduceEqDiff, Nat.reduceAdd, Nat.reduceLeDiff, retOf, resOf, hb, labs]
              first | done | rfl
            | some q =>
              obtain ⟨n, v, r⟩ := q
              obtain ⟨z1, z2, z3, z4⟩ := oneR_le hone
              simp only [List.length_drop] at z1 z2 z3
              rw [hone] at hpl1
              rw [show oneB s (i + 1) = .agg [txt n, txt v, .sc (.int .i64 (s.length - r.length : Nat))] by unfold oneB; rw [hone]] at h214
              have hneg : decide (((s.length - r.length : Nat) : Int) < 0) = false := decide_eq_false (by omega)
              have hr : r = s.drop (s.length - r.length) := by
                rw [z4, List.drop_drop]
                congr 1
                simp only [List.length_drop]
                omega
              (repeat' first
    | refine w_seq ?_ | refine w_rg ?_ | refine wo_nil ?_ | refine g_skU ?_ | refine g_skT ?_ | refine g_skF ?_
    | ((first | apply s_plain | apply s_void | apply s_guard | apply g_goT | apply g_goF); · simp only [go_sem, Nat.reduceEqDiff, Nat.reduceAdd, Nat.reduceLeDiff, k0, k4, k5, w1, h214, hneg, splice, fillP, fillE, List.modify_zero_cons, List.replicate_succ, List.replicate_zero, List.set_cons_zero, List.drop_zero]; (first | done | rfl))
    | ((first | apply g_T | apply g_F | apply g_gT | apply g_gF); · intro q1_; (first | intro q2_ | have q2_ := q1_); simp only [go_sem, Nat.reduceEqDiff, Nat.reduceAdd, Nat.reduceLeDiff, k0, k4, k5, w1, h214, hneg, splice, fillP, fillE, List.modify_zero_cons, List.replicate_succ, List.replicate_zero, List.set_cons_zero, List.drop_zero, q1_, q2_]; (first | done | rfl))
    | (apply w_condX; · simp only [go_sem, Nat.reduceEqDiff, Nat.reduceAdd, Nat.reduceLeDiff, k0, k4, k5, w1, h214, hneg, splice, fillP, fillE, List.modify_zero_cons, List.replicate_succ, List.replicate_zero, List.set_cons_zero, List.drop_zero]; (first | done | rfl)); (first | refine wcd_T ?_ | refine wcd_F ?_)
    | refine w_skip ?_ | refine w_exit ?_ | refine w_ret ?_
    | fail
    )
              refine s_gatL (os := [39]) (w := false) (xs := labs out) (ys := [.agg [txt n, txt v]]) (by simp only [go_sem, Nat.reduceEqDiff, Nat.reduceAdd, Nat.reduceLeDiff]; exact ((hg.new _).put (d := 2000007) (by decide) _).new _) (by simp only [go_sem, Nat.reduceEqDiff, Nat.reduceAdd, Nat.reduceLeDiff, srcOf, elemsOf, List.drop_zero]) rfl (by rw [labs_len]; simp only [List.length_cons, List.length_nil]; omega) ?_
              intro p2 σ2 hg2 kp
              have hm7 := kp.m 2000007 (τ.c 2000007) (by decide) (by simp only [go_sem, Nat.reduceEqDiff, Nat.reduceAdd, Nat.reduceLeDiff]; try omega)
              simp only [go_sem, Nat.reduceEqDiff, Nat.reduceAdd, Nat.reduceLeDiff] at hm7
              have e : labs (out ++ [mkLab n v]) = labs out ++ [.agg [txt n, txt v]] := by simp [labs, lab_mk]
              rw [Bool.false_and, ← e] at hg2
              (repeat' first
    | refine w_seq ?_ | refine w_rg ?_ | refine wo_nil ?_ | refine g_skU ?_ | refine g_skT ?_ | refine g_skF ?_
    | ((first | apply s_plain | apply s_void | apply s_guard | apply g_goT | apply g_goF); · simp only [go_sem, Nat.reduceEqDiff, Nat.reduceAdd, Nat.reduceLeDiff, hm7, splice, fillP, fillE, List.modify_zero_cons, List.replicate_succ, List.replicate_zero, List.set_cons_zero, List.drop_zero]; (first | done | rfl))
    | ((first | apply g_T | apply g_F | apply g_gT | apply g_gF); · intro q1_; (first | intro q2_ | have q2_ := q1_); simp only [go_sem, Nat.reduceEqDiff, Nat.reduceAdd, Nat.reduceLeDiff, hm7, splice, fillP, fillE, List.modify_zero_cons, List.replicate_succ, List.replicate_zero, List.set_cons_zero, List.drop_zero, q1_, q2_]; (first | done | rfl))
    | fail
    )
              refine ⟨m', by omega, s.length - r.length, out ++ [mkLab n v], by rw [List.length_append]; simp only [List.length_cons, List.length_nil]; omega, by omega, by simp only [go_sem, Nat.reduceEqDiff, Nat.reduceAdd, Nat.reduceLeDiff], by simp only [go_sem, Nat.reduceEqDiff, Nat.reduceAdd, Nat.reduceLeDiff]; exact hg2, ⟨fun h => by simp at h, fun h => by omega⟩, ?_, ?_⟩
              · intro m hm
                rcases List.mem_append.1 hm with h | h
                · exact hsm m h
                · simp only [List.mem_singleton] at h
                  subst h
                  refine ⟨?_, ?_⟩ <;> simp [mkLab, ByteArray.size] <;> omega
              · rw [hpl1, ← hr, decide_eq_false (by omega)]
                rfl
      · refine w_exit ?_
        try simp only [if_true]
        refine ⟨i, out, by simp only [go_sem, Nat.reduceEqDiff, Nat.reduceAdd, Nat.reduceLeDiff, z0], by simp only [go_sem, Nat.reduceEqDiff, Nat.reduceAdd, Nat.reduceLeDiff, f5], by simp only [go_sem, Nat.reduceEqDiff, Nat.reduceAdd, Nat.reduceLeDiff, hp]; exact hg, hi, hsm, by omega, ?_⟩
        rw [hpl]
        simp only [Bool.and_eq_false_iff, decide_eq_false_iff_not] at hc
        cases m with
        | zero => rfl
        | succ m =>
          have : s.drop i = [] := List.drop_eq_nil_of_le (by omega)
          rw [this]; rfl
    · exact ⟨0, [], rfl, Nat.zero_le _, by simp only [go_sem, Nat.reduceEqDiff, Nat.reduceAdd, Nat.reduceLeDiff]; (first | done | rfl), by simp only [go_sem, Nat.reduceEqDiff, Nat.reduceAdd, Nat.reduceLeDiff]; exact .em, by simp, fun m hm => by simp at hm, rfl⟩
    · rintro x fr2 τ hq
      cases x with
      | exit id => exact hq.elim
      | ret => exact ⟨.inr rfl, hq⟩
      | normal =>
        obtain ⟨i, out, k0, k5, hg, hi, hsm, ho9, hpl⟩ := hq
        have hsm' : Smalls out := fun m hm => by
          have := hsm m hm
          unfold Small
          omega
        have h110 := a110 L M (l := out) (by omega) hsm'
        generalize hp : fr2 4 = p at hg
        have hfz := gat_fzd hg (labs_fzd τ 9 out)
        have w1 : IntKind.i64.wrap ((s.length : Int) - 1) = (s.length : Int) - 1 := by rw [IntKind.wrap_i64]; omega
        have hi0 : (0 : Int) ≤ (i : Int) := by omega
        (repeat' first
    | refine w_seq ?_ | refine w_rg ?_ | refine wo_nil ?_ | refine g_skU ?_ | refine g_skT ?_ | refine g_skF ?_
    | ((first | apply s_plain | apply s_void | apply s_guard | apply g_goT | apply g_goF); · simp only [go_sem, Nat.reduceEqDiff, Nat.reduceAdd, Nat.reduceLeDiff, k0, k5, w1, ba_data, ba_size, ba_toList, ba_extract, ba_append, List.toList_toArray]; (first | done | rfl))
    | ((first | apply g_T | apply g_F | apply g_gT | apply g_gF); · intro q1_; (first | intro q2_ | have q2_ := q1_); simp only [go_sem, Nat.reduceEqDiff, Nat.reduceAdd, Nat.reduceLeDiff, k0, k5, w1, ba_data, ba_size, ba_toList, ba_extract, ba_append, List.toList_toArray, q1_, q2_]; (first | done | rfl))
    | fail
    )
        refine g_F (v := .sc (.int .u8 (byteD s i).toNat)) (by
          intro hb
          have hlt : i < s.length := by
            have : ((i : Int) != (s.length : Int) - 1) = false := hb
            simp only [bne_eq_false_iff_eq] at this
            omega
          simp only [go_sem, Nat.reduceEqDiff, Nat.reduceAdd, Nat.reduceLeDiff, k0, k5, hb, ba_data, ba_size, ba_toList, ba_extract, ba_append, List.toList_toArray, hi0, Int.toNat_natCast, byteD_q hlt]) ?_
        (repeat' first
    | refine w_seq ?_ | refine w_rg ?_ | refine wo_nil ?_ | refine g_skU ?_ | refine g_skT ?_ | refine g_skF ?_
    | ((first | apply s_plain | apply s_void | apply s_guard | apply g_goT | apply g_goF); · simp only [go_sem, Nat.reduceEqDiff, Nat.reduceAdd, Nat.reduceLeDiff, hp, hfz, h110, ba_data, ba_size, ba_toList, ba_extract, ba_append, List.toList_toArray]; (first | done | rfl))
    | ((first | apply g_T | apply g_F | apply g_gT | apply g_gF); · intro q1_; (first | intro q2_ | have q2_ := q1_); simp only [go_sem, Nat.reduceEqDiff, Nat.reduceAdd, Nat.reduceLeDiff, hp, hfz, h110, ba_data, ba_size, ba_toList, ba_extract, ba_append, List.toList_toArray, q1_, q2_]; (first | done | rfl))
    | fail
    )
        refine g_F (v := .sc (.string (textS out))) (by
          intro hb
          have hb2 := hb
          simp only [Bool.or_eq_false_iff, Bool.not_eq_false'] at hb2
          have h211 := a211 U (l := out) (ab_size hb2.2) (right_iff.1 hb2.2).2.2
          simp only [go_sem, Nat.reduceEqDiff, Nat.reduceAdd, Nat.reduceLeDiff, hp, hb, hfz, h211, Bool.not_false]) ?_
        (repeat' first
    | refine w_seq ?_ | refine w_rg ?_ | refine wo_nil ?_ | refine g_skU ?_ | refine g_skT ?_ | refine g_skF ?_
    | ((first | apply s_plain | apply s_void | apply s_guard | apply g_goT | apply g_goF); · simp only [go_sem, Nat.reduceEqDiff, Nat.reduceAdd, Nat.reduceLeDiff, k0, ba_data, ba_size, ba_toList, ba_extract, ba_append, List.toList_toArray]; (first | done | rfl))
    | ((first | apply g_T | apply g_F | apply g_gT | apply g_gF); · intro q1_; (first | intro q2_ | have q2_ := q1_); simp only [go_sem, Nat.reduceEqDiff, Nat.reduceAdd, Nat.reduceLeDiff, k0, ba_data, ba_size, ba_toList, ba_extract, ba_append, List.toList_toArray, q1_, q2_]; (first | done | rfl))
    | fail
    )
        refine w_condB (b := !(decide (s.drop i = [125]) && rightL out && decide ((textS out).data.toList = s))) (by simp only [go_sem, Nat.reduceEqDiff, Nat.reduceAdd, Nat.reduceLeDiff]; rw [last_is hi, u8_ne _ 125 (z := 125) rfl, ByteArray.toList_eq]; cases ((i : Int) != (s.length : Int) - 1) <;> cases (byteD s i != 125) <;> cases rightL out <;> simp <;> (rw [Bool.eq_iff_iff]; simp)) (fun hd => ?_) (fun hd => ?_)
        · have hb : parseR s = ([], false) := by
            rw [hpr, hpl]
            simp only
            rw [if_neg]
            rintro ⟨h1, h2, h3⟩
            simp [h1, h2, h3] at hd
          (repeat' first
    | refine w_seq ?_ | refine w_rg ?_ | refine wo_nil ?_ | refine g_skU ?_ | refine g_skT ?_ | refine g_skF ?_
    | ((first | apply s_plain | apply s_void | apply s_guard | apply g_goT | apply g_goF); · simp only [go_sem, Nat.reduceEqDiff, Nat.reduceAdd, Nat.reduceLeDiff]; (first | done | rfl))
    | ((first | apply g_T | apply g_F | apply g_gT | apply g_gF); · intro q1_; (first | intro q2_ | have q2_ := q1_); simp only [go_sem, Nat.reduceEqDiff, Nat.reduceAdd, Nat.reduceLeDiff, q1_, q2_]; (first | done | rfl))
    | (apply w_condX; · simp only [go_sem, Nat.reduceEqDiff, Nat.reduceAdd, Nat.reduceLeDiff]; (first | done | rfl)); (first | refine wcd_T ?_ | refine wcd_F ?_)
    | refine w_skip ?_ | refine w_exit ?_ | refine w_ret ?_
    | fail
    )
          exact ⟨by first | exact .inr rfl | exact .inr trivial | exact .inl rfl, by simp only [go_sem, Nat.reduceEqDiff, Nat.reduceAdd, Nat.reduceLeDiff, retOf, resOf, hb, labs]; first | done | rfl⟩
        · simp only [Bool.not_eq_false', Bool.and_eq_true, decide_eq_true_eq] at hd
          have hb : parseR s = (out, true) := by
            rw [hpr, hpl]
            simp only
            rw [if_pos ⟨hd.1.1, hd.1.2, hd.2⟩]
          (repeat' first
    | refine w_seq ?_ | refine w_rg ?_ | refine wo_nil ?_ | refine g_skU ?_ | refine g_skT ?_ | refine g_skF ?_
    | ((first | apply s_plain | apply s_void | apply s_guard | apply g_goT | apply g_goF); · simp only [go_sem, Nat.reduceEqDiff, Nat.reduceAdd, Nat.reduceLeDiff, hp]; (first | done | rfl))
    | ((first | apply g_T | apply g_F | apply g_gT | apply g_gF); · intro q1_; (first | intro q2_ | have q2_ := q1_); simp only [go_sem, Nat.reduceEqDiff, Nat.reduceAdd, Nat.reduceLeDiff, hp, q1_, q2_]; (first | done | rfl))
    | (apply w_condX; · simp only [go_sem, Nat.reduceEqDiff, Nat.reduceAdd, Nat.reduceLeDiff, hp]; (first | done | rfl)); (first | refine wcd_T ?_ | refine wcd_F ?_)
    | refine w_skip ?_ | refine w_exit ?_ | refine w_ret ?_
    | fail
    )
          exact ⟨by first | exact .inr rfl | exact .inr trivial | exact .inl rfl, by simp only [go_sem, Nat.reduceEqDiff, Nat.reduceAdd, Nat.reduceLeDiff, retOf, resOf, hb, gat_fzd hg (labs_fzd τ 8 out)]; first | done | rfl⟩
end

def itoaS (n : Int) : ByteArray := ⟨(Lib.itoa n).toArray⟩
def signT (how : Int) : ByteArray := if how = 1 then ⟨#[62]⟩ else if how = 2 then ⟨#[62, 61]⟩ else if how = 3 then ⟨#[60]⟩ else if how = 4 then ⟨#[60, 61]⟩ else if how = 5 then ⟨#[61, 61]⟩ else ⟨#[]⟩
def wordsR (r : Rule) : List ByteArray := [r.name, r.metric, signT r.how, itoaS r.limit, itoaS r.for_, itoaS r.keep, itoaS r.tries, textS r.labels]
def howP (s : ByteArray) : Int := if s = ⟨#[]⟩ then 0 else if s = ⟨#[62]⟩ then 1 else if s = ⟨#[62, 61]⟩ then 2 else if s = ⟨#[60]⟩ then 3 else if s = ⟨#[60, 61]⟩ then 4 else if s = ⟨#[61, 61]⟩ then 5 else -1
def howR (s : ByteArray) : Int := if s = ⟨#[62]⟩ then 1 else if s = ⟨#[62, 61]⟩ then 2 else if s = ⟨#[60]⟩ then 3 else if s = ⟨#[60, 61]⟩ then 4 else if s = ⟨#[61, 61]⟩ then 5 else 0
def emptyR : Rule := ⟨⟨#[]⟩, ⟨#[]⟩, 0, 0, 0, 0, 0, []⟩
def ruleP (l : List ByteArray) : Rule := ⟨l.getD 0 ⟨#[]⟩, l.getD 1 ⟨#[]⟩, howP (l.getD 2 ⟨#[]⟩), numP (l.getD 3 ⟨#[]⟩).data.toList, numP (l.getD 4 ⟨#[]⟩).data.toList, numP (l.getD 5 ⟨#[]⟩).data.toList, numP (l.getD 6 ⟨#[]⟩).data.toList, (parseS (l.getD 7 ⟨#[]⟩).data.toList).1⟩
def ruleD (l : List ByteArray) : Rule := ⟨l.getD 0 ⟨#[]⟩, l.getD 1 ⟨#[]⟩, howR (l.getD 2 ⟨#[]⟩), numR (l.getD 3 ⟨#[]⟩).data.toList, numR (l.getD 4 ⟨#[]⟩).data.toList, numR (l.getD 5 ⟨#[]⟩).data.toList, numR (l.getD 6 ⟨#[]⟩).data.toList, (parseR (l.getD 7 ⟨#[]⟩).data.toList).1⟩
def readP (l : List ByteArray) : Rule × Int := if l.length = 8 ∧ rightR (ruleP l) = true ∧ wordsR (ruleP l) = l then (ruleP l, 0) else (emptyR, 6)
def readR (l : List ByteArray) : Rule × Bool := if l.length = 8 ∧ (parseR (l.getD 7 ⟨#[]⟩).data.toList).2 = true ∧ rightR (ruleD l) = true then (ruleD l, true) else (emptyR, false)
structure RightR (r : Rule) : Prop where
  how : 1 ≤ r.how ∧ r.how ≤ 5
  limit : -1099511627776 ≤ r.limit ∧ r.limit ≤ 1099511627776
  for_ : -1099511627776 ≤ r.for_ ∧ r.for_ ≤ 1099511627776
  keep : -1099511627776 ≤ r.keep ∧ r.keep ≤ 1099511627776
  tries : -1099511627776 ≤ r.tries ∧ r.tries ≤ 1099511627776
  labels : rightL r.labels = true
theorem right_parts {r : Rule} (h : rightR r = true) : RightR r := by
  unfold rightR restR timeB at h
  simp only [Bool.and_eq_true, decide_eq_true_eq] at h
  refine ⟨⟨?_, ?_⟩, ⟨?_, ?_⟩, ⟨?_, ?_⟩, ⟨?_, ?_⟩, ⟨?_, ?_⟩, ?_⟩ <;> first | omega | (simp_all; done) | (obtain ⟨⟨⟨⟨⟨h1, h2⟩, h3⟩, h4⟩, h5⟩, h6⟩ := h; first | omega | simp_all)
theorem itoaS_bytes (n : Int) : (itoaS n).data.toList = Lib.itoa n := rfl
theorem howP_sign {how : Int} (h : 1 ≤ how ∧ how ≤ 5) : howP (signT how) = how := by
  obtain rfl | rfl | rfl | rfl | rfl : how = 1 ∨ how = 2 ∨ how = 3 ∨ how = 4 ∨ how = 5 := by omega
  all_goals decide
theorem howR_sign {how : Int} (h : 1 ≤ how ∧ how ≤ 5) : howR (signT how) = how := by
  obtain rfl | rfl | rfl | rfl | rfl : how = 1 ∨ how = 2 ∨ how = 3 ∨ how = 4 ∨ how = 5 := by omega
  all_goals decide
theorem sign_howR {s : ByteArray} (h : 1 ≤ howR s ∧ howR s ≤ 5) : signT (howR s) = s := by
  unfold howR at h ⊢
  split
  · rename_i e; rw [e]; rfl
  · split
    · rename_i e; rw [e]; rfl
    · split
      · rename_i e; rw [e]; rfl
      · split
        · rename_i e; rw [e]; rfl
        · split
          · rename_i e; rw [e]; rfl
          · rename_i h1 h2 h3 h4 h5
            simp only [h1, h2, h3, h4, h5, if_false] at h
            omega
theorem readP_words {r : Rule} (h : rightR r = true) : readP (wordsR r) = (r, 0) := by
  have p := right_parts h
  have e : ruleP (wordsR r) = r := by
    unfold ruleP wordsR
    simp only [List.getD_cons_zero, List.getD_cons_succ, itoaS_bytes, howP_sign p.how, numP_itoa p.limit, numP_itoa p.for_, numP_itoa p.keep, numP_itoa p.tries, parse_text p.labels]
  unfold readP
  rw [e, if_pos ⟨rfl, h, rfl⟩]
theorem readR_words {r : Rule} (h : rightR r = true) : readR (wordsR r) = (r, true) := by
  have p := right_parts h
  have e : ruleD (wordsR r) = r := by
    unfold ruleD wordsR
    simp only [List.getD_cons_zero, List.getD_cons_succ, itoaS_bytes, howR_sign p.how, numR_itoa p.limit, numR_itoa p.for_, numR_itoa p.keep, numR_itoa p.tries, parseR_text p.labels]
  unfold readR
  rw [e, if_pos ⟨rfl, (by show (parseR (textS r.labels).data.toList).2 = true; rw [parseR_text p.labels]), h⟩]
theorem readP_ok {l : List ByteArray} (h : (readP l).2 = 0) : rightR (readP l).1 = true ∧ wordsR (readP l).1 = l := by
  unfold readP at h ⊢
  split at h
  · rename_i hc
    rw [if_pos hc]
    exact hc.2
  · simp at h
theorem readP_bad {l : List ByteArray} (h : (readP l).2 ≠ 0) : readP l = (emptyR, 6) := by
  unfold readP at h ⊢
  split
  · rename_i hc; rw [if_pos hc] at h; exact absurd rfl h
  · rfl
theorem num_back {s : ByteArray} (h : -1099511627776 ≤ numR s.data.toList ∧ numR s.data.toList ≤ 1099511627776) : itoaS (numR s.data.toList) = s := by
  have := numR_ok (s := s.data.toList) (by omega)
  unfold itoaS
  rw [this]
theorem list8 {l : List ByteArray} (h : l.length = 8) : l = [l.getD 0 ⟨#[]⟩, l.getD 1 ⟨#[]⟩, l.getD 2 ⟨#[]⟩, l.getD 3 ⟨#[]⟩, l.getD 4 ⟨#[]⟩, l.getD 5 ⟨#[]⟩, l.getD 6 ⟨#[]⟩, l.getD 7 ⟨#[]⟩] := by
  match l, h with
  | [a, b, c, d, e, f, g, i], _ => rfl
theorem readR_ok {l : List ByteArray} (h : (readR l).2 = true) : rightR (readR l).1 = true ∧ wordsR (readR l).1 = l := by
  unfold readR at h ⊢
  split at h
  · rename_i hc
    rw [if_pos hc]
    obtain ⟨h8, hp, hr⟩ := hc
    refine ⟨hr, ?_⟩
    have p := right_parts hr
    have hl := list8 h8
    have ht : textS (parseR (l.getD 7 ⟨#[]⟩).data.toList).1 = l.getD 7 ⟨#[]⟩ := by
      obtain ⟨_, h2⟩ := parseR_ok (s := (l.getD 7 ⟨#[]⟩).data.toList) (l := (parseR (l.getD 7 ⟨#[]⟩).data.toList).1) (by rw [← hp])
      have := congrArg (fun x : List UInt8 => (⟨x.toArray⟩ : ByteArray)) h2
      exact this.trans (by simp)
    conv => rhs; rw [hl]
    unfold wordsR
    have e2 := sign_howR (s := l.getD 2 ⟨#[]⟩) p.how
    have e3 := num_back (s := l.getD 3 ⟨#[]⟩) p.limit
    have e4 := num_back (s := l.getD 4 ⟨#[]⟩) p.for_
    have e5 := num_back (s := l.getD 5 ⟨#[]⟩) p.keep
    have e6 := num_back (s := l.getD 6 ⟨#[]⟩) p.tries
    show [l.getD 0 ⟨#[]⟩, l.getD 1 ⟨#[]⟩, signT (howR (l.getD 2 ⟨#[]⟩)), itoaS (numR (l.getD 3 ⟨#[]⟩).data.toList), itoaS (numR (l.getD 4 ⟨#[]⟩).data.toList), itoaS (numR (l.getD 5 ⟨#[]⟩).data.toList), itoaS (numR (l.getD 6 ⟨#[]⟩).data.toList), textS (parseR (l.getD 7 ⟨#[]⟩).data.toList).1] = _
    rw [e2, e3, e4, e5, e6, ht]
  · simp at h
theorem read_same (l : List ByteArray) : (readR l).2 = ((readP l).2 == 0) ∧ ((readR l).2 = true → (readP l).1 = (readR l).1) ∧ ((readR l).2 = false → readP l = (emptyR, 6) ∧ (readR l).1 = emptyR) := by
  cases h : (readR l).2 with
  | true =>
    obtain ⟨h1, h2⟩ := readR_ok h
    have := readP_words h1
    rw [h2] at this
    rw [this]
    exact ⟨rfl, fun _ => rfl, fun h => by cases h⟩
  | false =>
    have hne : (readP l).2 ≠ 0 := by
      intro h0
      obtain ⟨h1, h2⟩ := readP_ok h0
      have := readR_words h1
      rw [h2] at this
      rw [this] at h
      cases h
    have hb := readP_bad hne
    rw [hb]
    refine ⟨rfl, ⟨fun h => (by cases h), fun _ => ⟨rfl, ?_⟩⟩⟩
    unfold readR at h ⊢
    split
    · rename_i hc; rw [if_pos hc] at h; cases h
    · rfl

def d193 : Def := (.code 1 [.tmp 2, .tmp 3] (.seq (.rg false [⟨.some 1, .none, .box (.t 0)⟩, ⟨.some 2, .none, .mv (.c (.slice .none 0 0))⟩, ⟨.some 3, .none, .mv (.c (.int .i64 0))⟩]) (.seq (.seq (.rg false [⟨.some 9, .none, .ld (.some 8) (.t 1)⟩, ⟨.some 10, .none, .call 105 .pure [.t 9]⟩, ⟨.some 11, .none, .un .not (.t 10)⟩]) (.cond (.t 11) (.seq (.rg false [⟨.some 2, .none, .mv (.c (.slice .none 0 0))⟩, ⟨.some 3, .none, .mv (.c (.int .i64 1))⟩]) .ret) .skip)) (.seq (.rg false [⟨.some 13, .none, .fa 7 (.t 1)⟩, ⟨.some 14, .none, .ld .none (.t 13)⟩, ⟨.some 15, .none, .call 202 .pure [.t 14]⟩, ⟨.some 12, .none, .mv (.t 15)⟩, ⟨.some 16, .none, .ext (.t 12) 0⟩, ⟨.some 17, .none, .ext (.t 12) 1⟩, ⟨.some 4, .none, .mv (.t 16)⟩, ⟨.some 5, .none, .mv (.t 17)⟩]) (.seq (.rg true [⟨.some 18, .none, .fa 0 (.t 1)⟩, ⟨.some 19, .none, .ld .none (.t 18)⟩, ⟨.some 20, .none, .fa 1 (.t 1)⟩, ⟨.some 21, .none, .ld .none (.t 20)⟩, ⟨.some 22, .none, .call 115 .strict []⟩, ⟨.some 23, .none, .fa 2 (.t 1)⟩, ⟨.some 24, .none, .ld .none (.t 23)⟩, ⟨.some 25, .none, .ixa 2 6 (.some 2) (.t 22) (.t 24)⟩, ⟨.some 26, .none, .fld 0 .none (.t 25)⟩, ⟨.some 27, .none, .bsl 1 (.string ⟨#[]⟩) 3 [(0, .t 19), (1, .t 21), (2, .t 26)]⟩, ⟨.some 6, .none, .mv (.t 27)⟩]) (.seq (.seq (.rg false [⟨.some 28, .none, .fa 3 (.t 1)⟩, ⟨.some 29, .none, .ld .none (.t 28)⟩, ⟨.some 30, .none, .fa 4 (.t 1)⟩, ⟨.some 31, .none, .ld .none (.t 30)⟩, ⟨.some 32, .none, .fa 5 (.t 1)⟩, ⟨.some 33, .none, .ld .none (.t 32)⟩, ⟨.some 34, .none, .fa 6 (.t 1)⟩, ⟨.some 35, .none, .ld .none (.t 34)⟩, ⟨.some 36, .none, .bsl 1 (.int .i64 0) 4 [(0, .t 29), (1, .t 31), (2, .t 33), (3, .t 35)]⟩, ⟨.some 37, .none, .lenL (.t 36)⟩, ⟨.some 38, .none, .mv (.c (.int .i64 0))⟩]) (.block 0 (.loop (.seq (.rg false [⟨.some 39, .none, .bin .lss (.t 38) (.t 37)⟩]) (.seq (.cond (.t 39) .skip (.exit 0)) (.seq (.block 1 (.seq (.rg false [⟨.some 40, .none, .ia 1 (.t 36) (.t 38)⟩, ⟨.some 41, .none, .ld .none (.t 40)⟩, ⟨.some 8, .none, .mv (.t 41)⟩]) (.rg false [⟨.some 42, .none, .mv (.t 6)⟩, ⟨.some 43, .none, .mv (.t 8)⟩, ⟨.some 44, .none, .call 203 .pure [.t 43]⟩, ⟨.some 45, .none, .bsl 1 (.string ⟨#[]⟩) 1 [(0, .t 44)]⟩, ⟨.some 46, .none, .app 1 16 false (.t 42) (.t 45)⟩, ⟨.some 6, .none, .mv (.t 46)⟩]))) (.rg false [⟨.some 47, .none, .bin .add (.t 38) (.c (.int .i64 1))⟩, ⟨.some 38, .none, .mv (.t 47)⟩]))))))) (.seq (.rg false [⟨.some 48, .none, .mv (.t 6)⟩, ⟨.some 49, .none, .mv (.t 4)⟩, ⟨.some 50, .none, .bsl 1 (.string ⟨#[]⟩) 1 [(0, .t 49)]⟩, ⟨.some 51, .none, .app 1 16 false (.t 48) (.t 50)⟩, ⟨.some 2, .none, .mv (.t 51)⟩, ⟨.some 3, .none, .mv (.c (.int .i64 0))⟩]) .ret)))))))
def d205 : Def := (.code 1 [.tmp 2] (.seq (.rg false [⟨.some 2, .none, .mv (.c (.int .i64 0))⟩]) (.seq (.rg false [⟨.some 3, .none, .mv (.c (.int .i64 0))⟩, ⟨.some 4, .none, .mv (.c (.int .i64 1))⟩]) (.seq (.seq (.rg false [⟨.some 6, .none, .mv (.t 0)⟩, ⟨.some 7, .none, .lenS (.t 6)⟩, ⟨.some 8, .none, .mnmx false [.t 7, .c (.int .i64 15)]⟩, ⟨.some 9, .none, .mv (.c (.int .i64 0))⟩]) (.block 0 (.loop (.seq (.rg false [⟨.some 10, .none, .bin .lss (.t 9) (.t 8)⟩]) (.seq (.cond (.t 10) .skip (.exit 0)) (.seq (.block 1 (.seq (.rg false [⟨.some 11, .none, .mv (.t 9)⟩, ⟨.some 5, .none, .mv (.t 11)⟩]) (.seq (.seq (.rg false [⟨.some 12, .none, .mv (.t 0)⟩, ⟨.some 13, .none, .mv (.t 5)⟩, ⟨.some 14, .none, .ix (.t 12) (.t 13)⟩, ⟨.some 15, .none, .bin .eql (.t 14) (.c (.int .u8 45))⟩]) (.cond (.t 15) (.seq (.rg false [⟨.some 4, .none, .mv (.c (.int .i64 (-1)))⟩]) (.exit 1)) .skip)) (.rg false [⟨.some 16, .none, .mv (.t 3)⟩, ⟨.some 17, .none, .bin .mul (.c (.int .i64 10)) (.t 16)⟩, ⟨.some 18, .none, .mv (.t 0)⟩, ⟨.some 19, .none, .mv (.t 5)⟩, ⟨.some 20, .none, .ix (.t 18) (.t 19)⟩, ⟨.some 21, .none, .bin .and (.t 20) (.c (.int .u8 15))⟩, ⟨.some 22, .none, .cvi .i64 (.t 21)⟩, ⟨.some 23, .none, .bin .add (.t 17) (.t 22)⟩, ⟨.some 3, .none, .mv (.t 23)⟩])))) (.rg false [⟨.some 24, .none, .bin .add (.t 9) (.c (.int .i64 1))⟩, ⟨.some 9, .none, .mv (.t 24)⟩]))))))) (.seq (.rg false [⟨.some 25, .none, .mv (.t 4)⟩, ⟨.some 26, .none, .mv (.t 3)⟩, ⟨.some 27, .none, .bin .mul (.t 25) (.t 26)⟩, ⟨.some 2, .none, .mv (.t 27)⟩]) .ret)))))
def d210 : Def := (.code 1 [.tmp 2] (.seq (.rg false [⟨.some 2, .none, .mv (.c (.string ⟨#[]⟩))⟩]) (.seq (.rg false [⟨.some 3, .none, .bsl 1 (.string ⟨#[]⟩) 6 [(0, .c (.string ⟨#[]⟩)), (1, .c (.string ⟨#[62]⟩)), (2, .c (.string ⟨#[62, 61]⟩)), (3, .c (.string ⟨#[60]⟩)), (4, .c (.string ⟨#[60, 61]⟩)), (5, .c (.string ⟨#[61, 61]⟩))]⟩, ⟨.some 4, .none, .mv (.t 0)⟩, ⟨.some 5, .none, .ia 1 (.t 3) (.t 4)⟩, ⟨.some 6, .none, .ld .none (.t 5)⟩, ⟨.some 2, .none, .mv (.t 6)⟩]) .ret)))
def d197 : Def := (.code 1 [.tmp 2] (.seq (.rg false [⟨.some 1, .none, .box (.t 0)⟩, ⟨.some 2, .none, .mv (.c (.slice .none 0 0))⟩]) (.seq (.rg true [⟨.some 3, .none, .fa 0 (.t 1)⟩, ⟨.some 4, .none, .ld .none (.t 3)⟩, ⟨.some 5, .none, .fa 1 (.t 1)⟩, ⟨.some 6, .none, .ld .none (.t 5)⟩, ⟨.some 7, .none, .fa 2 (.t 1)⟩, ⟨.some 8, .none, .ld .none (.t 7)⟩, ⟨.some 9, .none, .call 210 .strict [.t 8]⟩, ⟨.some 10, .none, .fa 3 (.t 1)⟩, ⟨.some 11, .none, .ld .none (.t 10)⟩, ⟨.some 12, .none, .call 203 .strict [.t 11]⟩, ⟨.some 13, .none, .fa 4 (.t 1)⟩, ⟨.some 14, .none, .ld .none (.t 13)⟩, ⟨.some 15, .none, .call 203 .strict [.t 14]⟩, ⟨.some 16, .none, .fa 5 (.t 1)⟩, ⟨.some 17, .none, .ld .none (.t 16)⟩, ⟨.some 18, .none, .call 203 .strict [.t 17]⟩, ⟨.some 19, .none, .fa 6 (.t 1)⟩, ⟨.some 20, .none, .ld .none (.t 19)⟩, ⟨.some 21, .none, .call 203 .strict [.t 20]⟩, ⟨.some 22, .none, .fa 7 (.t 1)⟩, ⟨.some 23, .none, .ld .none (.t 22)⟩, ⟨.some 24, .none, .call 211 .strict [.t 23]⟩, ⟨.some 25, .none, .bsl 1 (.string ⟨#[]⟩) 8 [(0, .t 4), (1, .t 6), (2, .t 9), (3, .t 12), (4, .t 15), (5, .t 18), (6, .t 21), (7, .t 24)]⟩, ⟨.some 2, .none, .mv (.t 25)⟩]) .ret)))
def d194 : Def := (.code 1 [.tmp 2] (.seq (.rg false [⟨.some 2, .none, .mv (.c (.slice .none 0 0))⟩]) (.seq (.rg false [⟨.some 3, .none, .mv (.c (.slice .none 0 0))⟩]) (.seq (.seq (.rg false [⟨.some 6, .none, .mv (.t 0)⟩, ⟨.some 7, .none, .mv (.t 0)⟩, ⟨.some 8, .none, .lenL (.t 7)⟩, ⟨.some 9, .none, .mnmx false [.t 8, .c (.int .i64 10)]⟩, ⟨.some 10, .none, .slcL 1 (.t 6) .none (.some (.t 9))⟩, ⟨.some 11, .none, .lenL (.t 10)⟩, ⟨.some 12, .none, .mv (.c (.int .i64 0))⟩]) (.block 0 (.loop (.seq (.rg false [⟨.some 13, .none, .bin .lss (.t 12) (.t 11)⟩]) (.seq (.cond (.t 13) .skip (.exit 0)) (.seq (.block 1 (.seq (.rg false [⟨.some 14, .none, .ia 1 (.t 10) (.t 12)⟩, ⟨.some 15, .none, .ld .none (.t 14)⟩, ⟨.some 5, .none, .mv (.t 15)⟩]) (.rg false [⟨.some 16, .none, .mv (.t 3)⟩, ⟨.some 17, .none, .mv (.t 5)⟩, ⟨.some 18, .none, .mv (.t 5)⟩, ⟨.some 19, .none, .lenS (.t 18)⟩, ⟨.some 20, .none, .mnmx false [.t 19, .c (.int .i64 700)]⟩, ⟨.some 21, .none, .slcS (.t 17) .none (.some (.t 20))⟩, ⟨.some 22, .none, .bsl 1 (.string ⟨#[]⟩) 1 [(0, .t 21)]⟩, ⟨.some 23, .none, .app 1 16 false (.t 16) (.t 22)⟩, ⟨.some 3, .none, .mv (.t 23)⟩]))) (.rg false [⟨.some 24, .none, .bin .add (.t 12) (.c (.int .i64 1))⟩, ⟨.some 12, .none, .mv (.t 24)⟩]))))))) (.seq (.rg false [⟨.some 25, .none, .mv (.t 3)⟩, ⟨.some 2, .none, .mv (.t 25)⟩]) .ret)))))
def d35 : Def := (.code 2 [.tmp 4] (.seq (.rg false [⟨.some 4, .none, .mv (.c (.bool false))⟩]) (.seq (.seq (.rg false [⟨.some 6, .none, .mv (.t 0)⟩, ⟨.some 7, .none, .lenL (.t 6)⟩, ⟨.some 8, .none, .mv (.t 1)⟩, ⟨.some 9, .none, .lenL (.t 8)⟩, ⟨.some 10, .none, .bin .neq (.t 7) (.t 9)⟩]) (.cond (.t 10) (.seq (.rg false [⟨.some 4, .none, .mv (.c (.bool false))⟩]) .ret) .skip)) (.seq (.seq (.rg false [⟨.some 11, .none, .mv (.t 0)⟩, ⟨.some 12, .none, .lenL (.t 11)⟩, ⟨.some 13, .none, .mv (.c (.int .i64 0))⟩]) (.block 0 (.loop (.seq (.rg false [⟨.some 14, .none, .bin .lss (.t 13) (.t 12)⟩]) (.seq (.cond (.t 14) .skip (.exit 0)) (.seq (.block 1 (.seq (.rg false [⟨.some 15, .none, .mv (.t 13)⟩, ⟨.some 5, .none, .mv (.t 15)⟩]) (.seq (.rg true [⟨.some 16, .none, .mv (.t 0)⟩, ⟨.some 17, .none, .mv (.t 5)⟩, ⟨.some 18, .none, .ia 1 (.t 16) (.t 17)⟩, ⟨.some 19, .none, .ld .none (.t 18)⟩, ⟨.some 20, .none, .mv (.t 1)⟩, ⟨.some 21, .none, .mv (.t 5)⟩, ⟨.some 22, .none, .ia 1 (.t 20) (.t 21)⟩, ⟨.some 23, .none, .ld .none (.t 22)⟩, ⟨.some 24, .none, .bin .neq (.t 19) (.t 23)⟩]) (.cond (.t 24) (.seq (.rg false [⟨.some 4, .none, .mv (.c (.bool false))⟩]) .ret) .skip)))) (.rg false [⟨.some 25, .none, .bin .add (.t 13) (.c (.int .i64 1))⟩, ⟨.some 13, .none, .mv (.t 25)⟩]))))))) (.seq (.rg false [⟨.some 4, .none, .mv (.c (.bool true))⟩]) .ret)))))
def d36 : Def := (.code 2 [.tmp 4] (.seq (.rg false [⟨.some 4, .none, .mv (.c (.bool false))⟩]) (.seq (.seq (.rg false [⟨.some 6, .none, .mv (.t 0)⟩, ⟨.some 7, .none, .lenL (.t 6)⟩, ⟨.some 8, .none, .mv (.t 1)⟩, ⟨.some 9, .none, .lenL (.t 8)⟩, ⟨.some 10, .none, .bin .neq (.t 7) (.t 9)⟩]) (.cond (.t 10) (.seq (.rg false [⟨.some 4, .none, .mv (.c (.bool false))⟩]) .ret) .skip)) (.seq (.seq (.rg false [⟨.some 11, .none, .mv (.t 0)⟩, ⟨.some 12, .none, .lenL (.t 11)⟩, ⟨.some 13, .none, .mv (.c (.int .i64 0))⟩]) (.block 0 (.loop (.seq (.rg false [⟨.some 14, .none, .bin .lss (.t 13) (.t 12)⟩]) (.seq (.cond (.t 14) .skip (.exit 0)) (.seq (.block 1 (.seq (.rg false [⟨.some 15, .none, .mv (.t 13)⟩, ⟨.some 5, .none, .mv (.t 15)⟩]) (.seq (.rg true [⟨.some 16, .none, .mv (.t 0)⟩, ⟨.some 17, .none, .mv (.t 5)⟩, ⟨.some 18, .none, .ia 1 (.t 16) (.t 17)⟩, ⟨.some 19, .none, .ld .none (.t 18)⟩, ⟨.some 20, .none, .mv (.t 1)⟩, ⟨.some 21, .none, .mv (.t 5)⟩, ⟨.some 22, .none, .ia 1 (.t 20) (.t 21)⟩, ⟨.some 23, .none, .ld .none (.t 22)⟩, ⟨.some 24, .none, .bin .neq (.t 19) (.t 23)⟩]) (.cond (.t 24) (.seq (.rg false [⟨.some 4, .none, .mv (.c (.bool false))⟩]) .ret) .skip)))) (.rg false [⟨.some 25, .none, .bin .add (.t 13) (.c (.int .i64 1))⟩, ⟨.some 13, .none, .mv (.t 25)⟩]))))))) (.seq (.rg false [⟨.some 4, .none, .mv (.c (.bool true))⟩]) .ret)))))
def lha : List (Nat × Def) := [(203, .prim (pureF itoaF))]
def lhb : List (Nat × Def) := [(193, d193)]
def lhc : List (Nat × Def) := [(210, d210), (197, d197), (194, d194), (205, d205)]
def lhd : List (Nat × Def) := [(36, d36)]
def lhe : List (Nat × Def) := [(35, d35)]
section
variable {env : Nat → Option Def} {fr : Fr} {σ : St} {K : Fr → St → Prop} {Q : X → Fr → St → Prop}
theorem a203 (A : Has lha env) {n : Int} (h1 : -9223372036854775808 ≤ n) (h2 : n ≤ 9223372036854775807) : AV env 203 [.sc (.int .i64 n)] = some (.sc (.string (itoaS n))) := by
  have h := A (203, .prim (pureF itoaF)) (by simp [lha])
  refine AV_of (σ := St.nil) (r := .sc (.string (itoaS n))) ?_ rfl
  rw [EV_prim h]
  simp only [pureF, mapM_cons', mapM_nil', scOf, Option.bind_some, itoaF, if_pos (And.intro h1 h2), Option.map_some]
  rfl
def wayF (how : Int) : PV := if how = 1 then .fn 123 [] [] else if how = 2 then .fn 124 [] [] else if how = 3 then .fn 125 [] [] else if how = 4 then .fn 126 [] [] else .fn 127 [] []
theorem way_at {how : Int} (h : 1 ≤ how ∧ how ≤ 5) (E : Ev) (s : Nat) (fr : Fr) (σ : St) {a b : Nat} (ha : pa fr (.t a) = .agg waysL) (hb : pa fr (.t b) = .sc (.int .i64 how)) :
    evO E s fr σ (.ixa 2 6 (some 2) (.t a) (.t b)) = some (.agg [.sc (.string (signT how)), wayF how], σ) := by
  rw [e_ixa, ha, hb]
  obtain rfl | rfl | rfl | rfl | rfl : how = 1 ∨ how = 2 ∨ how = 3 ∨ how = 4 ∨ how = 5 := by omega
  all_goals rfl
theorem strs_snoc (l : List ByteArray) (s : ByteArray) : strs l ++ [.sc (.string s)] = strs (l ++ [s]) := by simp [strs]
def nums (r : Rule) : List Int := [r.limit, r.for_, r.keep, r.tries]
def headW (r : Rule) : List ByteArray := [r.name, r.metric, signT r.how]
theorem nums_in {r : Rule} (p : RightR r) {n : Int} (h : n ∈ nums r) : -1099511627776 ≤ n ∧ n ≤ 1099511627776 := by
  simp only [nums, List.mem_cons, List.not_mem_nil, or_false] at h
  rcases h with rfl | rfl | rfl | rfl
  · exact p.limit
  · exact p.for_
  · exact p.keep
  · exact p.tries
theorem strs_fzd (σ : St) (d : Nat) (l : List ByteArray) : (strs l).mapM (fz σ (d + 1)) = some (strs l) := by
  induction l with
  | nil => rfl
  | cons m L ih =>
    show List.mapM (fz σ (d + 1)) (.sc (.string m) :: strs L) = _
    rw [mapM_cons', ih]
    rfl
theorem a193 (H : Has la env) (G : Has lc env) (F : Has lf env) (I : Has lg env) (P : Has lp env) (U : Has lu env) (A : Has lha env) (W : Has lhb env) {r : Rule} (hr : r.Fits) :
    AV env 193 [rule r] = some (.tu [.sl (strs (if rightR r = true then wordsR r else [])), .sc (.int .i64 (if rightR r = true then 0 else 1))]) := by
  have h105 := a105 H G F I hr
  have h202 := a202 (la_la0 H) G P U hr.l hr.s
  have h115 := a115 I
  refine AV_wp (W (193, d193) (by simp [lhb])) rfl ?_
  unfold rule at h105 ⊢
  cases hb : rightR r with
  | false =>
    rw [hb] at h105
    (repeat' first
    | refine w_seq ?_ | refine w_rg ?_ | refine wo_nil ?_ | refine g_skU ?_ | refine g_skT ?_ | refine g_skF ?_
    | ((first | apply s_plain | apply s_void | apply s_guard | apply g_goT | apply g_goF); · simp only [go_sem, Nat.reduceEqDiff, Nat.reduceAdd, Nat.reduceLeDiff, h105]; (first | done | rfl))
    | ((first | apply g_T | apply g_F | apply g_gT | apply g_gF); · intro q1_; (first | intro q2_ | have q2_ := q1_); simp only [go_sem, Nat.reduceEqDiff, Nat.reduceAdd, Nat.reduceLeDiff, h105, q1_, q2_]; (first | done | rfl))
    | (apply w_condX; · simp only [go_sem, Nat.reduceEqDiff, Nat.reduceAdd, Nat.reduceLeDiff, h105]; (first | done | rfl)); (first | refine wcd_T ?_ | refine wcd_F ?_)
    | refine w_skip ?_ | refine w_exit ?_ | refine w_ret ?_
    | fail
    )
    exact ⟨by first | exact .inr rfl | exact .inr trivial | exact .inl rfl, by simp only [go_sem, Nat.reduceEqDiff, Nat.reduceAdd, Nat.reduceLeDiff, retOf, resOf]; first | done | rfl⟩
  | true =>
    rw [hb] at h105
    have p := right_parts hb
    rw [p.labels] at h202
    simp only [if_true] at h202
    (repeat' first
    | refine w_seq ?_ | refine w_rg ?_ | refine wo_nil ?_ | refine g_skU ?_ | refine g_skT ?_ | refine g_skF ?_
    | ((first | apply s_plain | apply s_void | apply s_guard | apply g_goT | apply g_goF); · simp only [go_sem, Nat.reduceEqDiff, Nat.reduceAdd, Nat.reduceLeDiff, h105]; (first | done | rfl))
    | ((first | apply g_T | apply g_F | apply g_gT | apply g_gF); · intro q1_; (first | intro q2_ | have q2_ := q1_); simp only [go_sem, Nat.reduceEqDiff, Nat.reduceAdd, Nat.reduceLeDiff, h105, q1_, q2_]; (first | done | rfl))
    | (apply w_condX; · simp only [go_sem, Nat.reduceEqDiff, Nat.reduceAdd, Nat.reduceLeDiff, h105]; (first | done | rfl)); (first | refine wcd_T ?_ | refine wcd_F ?_)
    | refine w_skip ?_ | refine w_exit ?_ | refine w_ret ?_
    | fail
    )
    (repeat' first
    | refine w_seq ?_ | refine w_rg ?_ | refine wo_nil ?_ | refine g_skU ?_ | refine g_skT ?_ | refine g_skF ?_
    | ((first | apply s_plain | apply s_void | apply s_guard | apply g_goT | apply g_goF); · simp only [go_sem, Nat.reduceEqDiff, Nat.reduceAdd, Nat.reduceLeDiff, h202]; (first | done | rfl))
    | ((first | apply g_T | apply g_F | apply g_gT | apply g_gF); · intro q1_; (first | intro q2_ | have q2_ := q1_); simp only [go_sem, Nat.reduceEqDiff, Nat.reduceAdd, Nat.reduceLeDiff, h202, q1_, q2_]; (first | done | rfl))
    | fail
    )
    (repeat' first
    | refine w_seq ?_ | refine w_rg ?_ | refine wo_nil ?_ | refine g_skU ?_ | refine g_skT ?_ | refine g_skF ?_
    | ((first | apply s_plain | apply s_void | apply s_guard | apply g_goT | apply g_goF); · simp only [go_sem, Nat.reduceEqDiff, Nat.reduceAdd, Nat.reduceLeDiff, h115]; (first | done | rfl))
    | ((first | apply g_T | apply g_F | apply g_gT | apply g_gF); · intro q1_; (first | intro q2_ | have q2_ := q1_); simp only [go_sem, Nat.reduceEqDiff, Nat.reduceAdd, Nat.reduceLeDiff, h115, q1_, q2_]; (first | done | rfl))
    | fail
    )
    refine s_plain (way_at p.how _ _ _ _ (by simp only [go_sem, Nat.reduceEqDiff, Nat.reduceAdd, Nat.reduceLeDiff]) (by simp only [go_sem, Nat.reduceEqDiff, Nat.reduceAdd, Nat.reduceLeDiff])) ?_
    (repeat' first
    | refine w_seq ?_ | refine w_rg ?_ | refine wo_nil ?_ | refine g_skU ?_ | refine g_skT ?_ | refine g_skF ?_
    | ((first | apply s_plain | apply s_void | apply s_guard | apply g_goT | apply g_goF); · simp only [go_sem, Nat.reduceEqDiff, Nat.reduceAdd, Nat.reduceLeDiff, List.replicate_succ, List.replicate_zero, List.set_cons_zero, List.set_cons_succ]; (first | done | rfl))
    | ((first | apply g_T | apply g_F | apply g_gT | apply g_gF); · intro q1_; (first | intro q2_ | have q2_ := q1_); simp only [go_sem, Nat.reduceEqDiff, Nat.reduceAdd, Nat.reduceLeDiff, List.replicate_succ, List.replicate_zero, List.set_cons_zero, List.set_cons_succ, q1_, q2_]; (first | done | rfl))
    | fail
    )
    refine w_block (w_range 4 (by omega) (fun i fr σ => fr 4 = .sc (.string (textS r.labels)) ∧ (∃ g, fr 36 = .ob 36 g 1 0 4 ∧ σ.m 36 g = some ⟨1, (nums r).map fun n => .sc (.int .i64 n), true, true⟩ ∧ g < σ.c 36) ∧ Gat σ [27, 46] 1 false (fr 6) (strs (headW r ++ ((nums r).take i).map itoaS))) (by decide) ?_ ?_ ?_ _ _ ?_ ?_ ?_)
    · rintro i fr σ v ⟨h0, ⟨g, h1, h2⟩, h3⟩
      refine ⟨⟨?_, ⟨g, ?_, h2⟩, ?_⟩, ⟨?_, ⟨g, ?_, h2⟩, ?_⟩, ⟨?_, ⟨g, ?_, h2⟩, ?_⟩⟩ <;> simp only [go_sem, Nat.reduceEqDiff, Nat.reduceAdd, Nat.reduceLeDiff, h0, h1, h3]
    · rintro i fr σ hi ⟨h4, ⟨g, h36, hm, hgc⟩, hg⟩ hti htn
      have hil : i < (nums r).length := hi
      have hx : ((nums r).map fun n => PV.sc (.int .i64 n))[i]? = some (.sc (.int .i64 (nums r)[i])) := by rw [List.getElem?_map, List.getElem?_eq_getElem hil]; rfl
      have hr := nums_in p (List.getElem_mem hil)
      have h203 := a203 A (n := (nums r)[i]) (by omega) (by omega)
      have e1 : (0 : Int) ≤ (i : Int) ∧ (i : Int) < 4 := by omega
      have e1' : (0 : Int) ≤ (i : Int) ∧ (i : Int) < ((4 : Nat) : Int) := by omega
      have e2 : strs (headW r ++ ((nums r).take (i + 1)).map itoaS) = strs (headW r ++ ((nums r).take i).map itoaS) ++ [.sc (.string (itoaS (nums r)[i]))] := by
        rw [strs_snoc, List.take_succ_eq_append_getElem hil, List.map_append, List.append_assoc]; rfl
      have hlen : (strs (headW r ++ ((nums r).take i).map itoaS)).length ≤ 7 := by
        rw [strs_len, List.length_append, List.length_map, List.length_take]
        show 3 + min i 4 ≤ 7
        omega
      refine w_block ?_
      (repeat' first
    | refine w_seq ?_ | refine w_rg ?_ | refine wo_nil ?_ | refine g_skU ?_ | refine g_skT ?_ | refine g_skF ?_
    | ((first | apply s_plain | apply s_void | apply s_guard | apply g_goT | apply g_goF); · simp only [go_sem, Nat.reduceEqDiff, Nat.reduceAdd, Nat.reduceLeDiff, h36, hti, e1, e1', hm, Int.toNat_natCast, hx, h203, Nat.zero_add]; (first | done | rfl))
    | ((first | apply g_T | apply g_F | apply g_gT | apply g_gF); · intro q1_; (first | intro q2_ | have q2_ := q1_); simp only [go_sem, Nat.reduceEqDiff, Nat.reduceAdd, Nat.reduceLeDiff, h36, hti, e1, e1', hm, Int.toNat_natCast, hx, h203, Nat.zero_add, q1_, q2_]; (first | done | rfl))
    | fail
    )
      (repeat' first
    | refine w_seq ?_ | refine w_rg ?_ | refine wo_nil ?_ | refine g_skU ?_ | refine g_skT ?_ | refine g_skF ?_
    | ((first | apply s_plain | apply s_void | apply s_guard | apply g_goT | apply g_goF); · simp only [go_sem, Nat.reduceEqDiff, Nat.reduceAdd, Nat.reduceLeDiff, List.replicate_succ, List.replicate_zero, List.set_cons_zero]; (first | done | rfl))
    | ((first | apply g_T | apply g_F | apply g_gT | apply g_gF); · intro q1_; (first | intro q2_ | have q2_ := q1_); simp only [go_sem, Nat.reduceEqDiff, Nat.reduceAdd, Nat.reduceLeDiff, List.replicate_succ, List.replicate_zero, List.set_cons_zero, q1_, q2_]; (first | done | rfl))
    | fail
    )
      refine s_gatL (os := [27, 46]) (w := false) (xs := strs (headW r ++ ((nums r).take i).map itoaS)) (ys := [.sc (.string (itoaS (nums r)[i]))]) (by simp only [go_sem, Nat.reduceEqDiff, Nat.reduceAdd, Nat.reduceLeDiff]; exact hg.new _) (by simp only [go_sem, Nat.reduceEqDiff, Nat.reduceAdd, Nat.reduceLeDiff, srcOf, elemsOf, List.drop_zero, List.replicate_succ, List.replicate_zero, List.set_cons_zero]) rfl (by simp only [List.length_cons, List.length_nil]; omega) ?_
      intro p σ' hg2 hk
      simp only [Bool.false_and] at hg2
      rw [← e2] at hg2
      (repeat' first
    | refine w_seq ?_ | refine w_rg ?_ | refine wo_nil ?_ | refine g_skU ?_ | refine g_skT ?_ | refine g_skF ?_
    | ((first | apply s_plain | apply s_void | apply s_guard | apply g_goT | apply g_goF); · simp only [go_sem, Nat.reduceEqDiff, Nat.reduceAdd, Nat.reduceLeDiff]; (first | done | rfl))
    | ((first | apply g_T | apply g_F | apply g_gT | apply g_gF); · intro q1_; (first | intro q2_ | have q2_ := q1_); simp only [go_sem, Nat.reduceEqDiff, Nat.reduceAdd, Nat.reduceLeDiff, q1_, q2_]; (first | done | rfl))
    | fail
    )
      refine ⟨⟨?_, ⟨g, ?_, ?_, ?_⟩, ?_⟩, ?_, ?_⟩
      · simp only [go_sem, Nat.reduceEqDiff, Nat.reduceAdd, Nat.reduceLeDiff, h4]
      · simp only [go_sem, Nat.reduceEqDiff, Nat.reduceAdd, Nat.reduceLeDiff, h36]
      · rw [hk.2 36 g (by decide) (by simp only [new_c]; split <;> omega), new_m, if_neg (fun h => absurd h.1 (by decide))]; exact hm
      · exact Nat.lt_of_lt_of_le (by simp only [new_c]; split <;> omega : g < _) (hk.1 36)
      · simp only [go_sem, Nat.reduceEqDiff, Nat.reduceAdd, Nat.reduceLeDiff]; exact hg2.mono (by decide)
      · simp only [go_sem, Nat.reduceEqDiff, Nat.reduceAdd, Nat.reduceLeDiff, hti]
      · simp only [go_sem, Nat.reduceEqDiff, Nat.reduceAdd, Nat.reduceLeDiff, htn]
    · rintro fr σ ⟨h4, ⟨g, h36, hm, hgc⟩, hg⟩
      try simp only [if_true]
      (repeat' first
    | refine w_seq ?_ | refine w_rg ?_ | refine wo_nil ?_ | refine g_skU ?_ | refine g_skT ?_ | refine g_skF ?_
    | ((first | apply s_plain | apply s_void | apply s_guard | apply g_goT | apply g_goF); · simp only [go_sem, Nat.reduceEqDiff, Nat.reduceAdd, Nat.reduceLeDiff, h4, List.replicate_succ, List.replicate_zero, List.set_cons_zero]; (first | done | rfl))
    | ((first | apply g_T | apply g_F | apply g_gT | apply g_gF); · intro q1_; (first | intro q2_ | have q2_ := q1_); simp only [go_sem, Nat.reduceEqDiff, Nat.reduceAdd, Nat.reduceLeDiff, h4, List.replicate_succ, List.replicate_zero, List.set_cons_zero, q1_, q2_]; (first | done | rfl))
    | fail
    )
      refine s_gatL (os := [27, 46]) (w := false) (xs := strs (headW r ++ ((nums r).take 4).map itoaS)) (ys := [.sc (.string (textS r.labels))]) (by simp only [go_sem, Nat.reduceEqDiff, Nat.reduceAdd, Nat.reduceLeDiff]; exact hg.new _) (by simp only [go_sem, Nat.reduceEqDiff, Nat.reduceAdd, Nat.reduceLeDiff, srcOf, elemsOf, List.drop_zero, List.replicate_succ, List.replicate_zero, List.set_cons_zero]) rfl (by rw [strs_len]; show (3 + 4 + 1) * 16 ≤ _; omega) ?_
      intro q σ' hg2 _
      rw [strs_snoc] at hg2
      have hfz := gat_fzd hg2 (strs_fzd σ' 9 _)
      (repeat' first
    | refine w_seq ?_ | refine w_rg ?_ | refine wo_nil ?_ | refine g_skU ?_ | refine g_skT ?_ | refine g_skF ?_
    | ((first | apply s_plain | apply s_void | apply s_guard | apply g_goT | apply g_goF); · simp only [go_sem, Nat.reduceEqDiff, Nat.reduceAdd, Nat.reduceLeDiff]; (first | done | rfl))
    | ((first | apply g_T | apply g_F | apply g_gT | apply g_gF); · intro q1_; (first | intro q2_ | have q2_ := q1_); simp only [go_sem, Nat.reduceEqDiff, Nat.reduceAdd, Nat.reduceLeDiff, q1_, q2_]; (first | done | rfl))
    | (apply w_condX; · simp only [go_sem, Nat.reduceEqDiff, Nat.reduceAdd, Nat.reduceLeDiff]; (first | done | rfl)); (first | refine wcd_T ?_ | refine wcd_F ?_)
    | refine w_skip ?_ | refine w_exit ?_ | refine w_ret ?_
    | fail
    )
      refine ⟨.inr rfl, ?_⟩
      simp only [go_sem, Nat.reduceEqDiff, Nat.reduceAdd, Nat.reduceLeDiff, retOf, resOf, hfz]
      rfl
    · refine ⟨?_, ⟨0, ?_, ?_, ?_⟩, ?_⟩
      · simp only [go_sem, Nat.reduceEqDiff, Nat.reduceAdd, Nat.reduceLeDiff]
      · simp only [go_sem, Nat.reduceEqDiff, Nat.reduceAdd, Nat.reduceLeDiff]
      · simp only [go_sem, Nat.reduceEqDiff, Nat.reduceAdd, Nat.reduceLeDiff]; rfl
      · simp only [go_sem, Nat.reduceEqDiff, Nat.reduceAdd, Nat.reduceLeDiff]
      · simp only [go_sem, Nat.reduceEqDiff, Nat.reduceAdd, Nat.reduceLeDiff]; exact .inr ⟨27, _, true, by decide, rfl, by simp only [go_sem, Nat.reduceEqDiff, Nat.reduceAdd, Nat.reduceLeDiff]; rfl, (by simp only [go_sem, Nat.reduceEqDiff, Nat.reduceAdd, Nat.reduceLeDiff]), by simp [strs, headW], fun _ => rfl⟩
    · simp only [go_sem, Nat.reduceEqDiff, Nat.reduceAdd, Nat.reduceLeDiff]
    · simp only [go_sem, Nat.reduceEqDiff, Nat.reduceAdd, Nat.reduceLeDiff]
end

section
variable {env : Nat → Option Def} {fr : Fr} {σ σ' σ'' : St} {K : Fr → St → Prop} {Q : X → Fr → St → Prop} {p : PV} {bs : List UInt8}
theorem ba_inj {a b : ByteArray} (h : a.toList = b.toList) : a = b := by
  rw [ByteArray.toList_eq, ByteArray.toList_eq] at h
  exact ByteArray.ext (Array.toList_inj.1 h)
theorem ba_beq (a b : ByteArray) : (a.toList == b.toList) = decide (a = b) := by
  rw [Bool.eq_iff_iff, beq_iff_eq, decide_eq_true_iff]
  exact ⟨ba_inj, fun h => by rw [h]⟩
theorem a36 (D : Has lhd env) {a b : List ByteArray} (hn : a.length ≤ 9223372036854775807) : AV env 36 [.sl (strs a), .sl (strs b)] = some (.sc (.bool (decide (a = b)))) := by
  refine AV_wp (D (36, d36) (by simp [lhd])) rfl ?_
  have hla := strs_len a
  have hlb := strs_len b
  (repeat' first
    | refine w_seq ?_ | refine w_rg ?_ | refine wo_nil ?_ | refine g_skU ?_ | refine g_skT ?_ | refine g_skF ?_
    | ((first | apply s_plain | apply s_void | apply s_guard | apply g_goT | apply g_goF); · simp only [go_sem, Nat.reduceEqDiff, Nat.reduceAdd, Nat.reduceLeDiff, hla, hlb]; (first | done | rfl))
    | ((first | apply g_T | apply g_F | apply g_gT | apply g_gF); · intro q1_; (first | intro q2_ | have q2_ := q1_); simp only [go_sem, Nat.reduceEqDiff, Nat.reduceAdd, Nat.reduceLeDiff, hla, hlb, q1_, q2_]; (first | done | rfl))
    | fail
    )
  by_cases hl : a.length = b.length
  · have hc : ((a.length : Int) != (b.length : Int)) = false := by rw [hl]; simp
    (repeat' first
    | refine w_seq ?_ | refine w_rg ?_ | refine wo_nil ?_ | refine g_skU ?_ | refine g_skT ?_ | refine g_skF ?_
    | ((first | apply s_plain | apply s_void | apply s_guard | apply g_goT | apply g_goF); · simp only [go_sem, Nat.reduceEqDiff, Nat.reduceAdd, Nat.reduceLeDiff, hc]; (first | done | rfl))
    | ((first | apply g_T | apply g_F | apply g_gT | apply g_gF); · intro q1_; (first | intro q2_ | have q2_ := q1_); simp only [go_sem, Nat.reduceEqDiff, Nat.reduceAdd, Nat.reduceLeDiff, hc, q1_, q2_]; (first | done | rfl))
    | (apply w_condX; · simp only [go_sem, Nat.reduceEqDiff, Nat.reduceAdd, Nat.reduceLeDiff, hc]; (first | done | rfl)); (first | refine wcd_T ?_ | refine wcd_F ?_)
    | refine w_skip ?_ | refine w_exit ?_ | refine w_ret ?_
    | fail
    )
    (repeat' first
    | refine w_seq ?_ | refine w_rg ?_ | refine wo_nil ?_ | refine g_skU ?_ | refine g_skT ?_ | refine g_skF ?_
    | ((first | apply s_plain | apply s_void | apply s_guard | apply g_goT | apply g_goF); · simp only [go_sem, Nat.reduceEqDiff, Nat.reduceAdd, Nat.reduceLeDiff, hla]; (first | done | rfl))
    | ((first | apply g_T | apply g_F | apply g_gT | apply g_gF); · intro q1_; (first | intro q2_ | have q2_ := q1_); simp only [go_sem, Nat.reduceEqDiff, Nat.reduceAdd, Nat.reduceLeDiff, hla, q1_, q2_]; (first | done | rfl))
    | fail
    )
    refine w_block (w_rangeF a.length hn (fun i fr σ => ∀ j, j < i → a[j]? = b[j]?) ⟨by decide, rfl, rfl⟩ (fun _ _ _ _ h => ⟨h, h, h⟩) (fun j hj => by omega) (by simp only [go_sem, Nat.reduceEqDiff, Nat.reduceAdd, Nat.reduceLeDiff]; first | done | rfl) (by simp only [go_sem, Nat.reduceEqDiff, Nat.reduceAdd, Nat.reduceLeDiff, hla]; first | done | rfl) ?_ ?_)
    · rintro i fr1 σ1 hi h3 hti hfr
      have f0_0 := hfr 0 rfl; have f0_1 := hfr 1 rfl; have f0_12 := hfr 12 rfl; try (simp only [go_sem, Nat.reduceEqDiff, Nat.reduceAdd, Nat.reduceLeDiff] at f0_0); try (simp only [go_sem, Nat.reduceEqDiff, Nat.reduceAdd, Nat.reduceLeDiff] at f0_1); try (simp only [go_sem, Nat.reduceEqDiff, Nat.reduceAdd, Nat.reduceLeDiff] at f0_12)
      have hi2 : i < b.length := by omega
      have qa := List.getElem?_eq_getElem hi
      have qb := List.getElem?_eq_getElem hi2
      have hx := strs_at qa
      have hy := strs_at qb
      have e1 : (0 : Int) ≤ (i : Int) ∧ (i : Int) < (a.length : Int) := by omega
      have e2 : (0 : Int) ≤ (i : Int) ∧ (i : Int) < (b.length : Int) := by omega
      refine w_block ?_
      (repeat' first
    | refine w_seq ?_ | refine w_rg ?_ | refine wo_nil ?_ | refine g_skU ?_ | refine g_skT ?_ | refine g_skF ?_
    | ((first | apply s_plain | apply s_void | apply s_guard | apply g_goT | apply g_goF); · simp only [go_sem, Nat.reduceEqDiff, Nat.reduceAdd, Nat.reduceLeDiff, f0_0, f0_1, f0_12, hti, e1, e2, hla, hlb, Int.toNat_natCast, hx, hy, ba_beq]; (first | done | rfl))
    | ((first | apply g_T | apply g_F | apply g_gT | apply g_gF); · intro q1_; (first | intro q2_ | have q2_ := q1_); simp only [go_sem, Nat.reduceEqDiff, Nat.reduceAdd, Nat.reduceLeDiff, f0_0, f0_1, f0_12, hti, e1, e2, hla, hlb, Int.toNat_natCast, hx, hy, ba_beq, q1_, q2_]; (first | done | rfl))
    | fail
    )
      by_cases he : a[i] = b[i]
      · have hb : (!(decide (a[i] = b[i]))) = false := by simp [he]
        (repeat' first
    | refine w_seq ?_ | refine w_rg ?_ | refine wo_nil ?_ | refine g_skU ?_ | refine g_skT ?_ | refine g_skF ?_
    | ((first | apply s_plain | apply s_void | apply s_guard | apply g_goT | apply g_goF); · simp only [go_sem, Nat.reduceEqDiff, Nat.reduceAdd, Nat.reduceLeDiff, hb]; (first | done | rfl))
    | ((first | apply g_T | apply g_F | apply g_gT | apply g_gF); · intro q1_; (first | intro q2_ | have q2_ := q1_); simp only [go_sem, Nat.reduceEqDiff, Nat.reduceAdd, Nat.reduceLeDiff, hb, q1_, q2_]; (first | done | rfl))
    | (apply w_condX; · simp only [go_sem, Nat.reduceEqDiff, Nat.reduceAdd, Nat.reduceLeDiff, hb]; (first | done | rfl)); (first | refine wcd_T ?_ | refine wcd_F ?_)
    | refine w_skip ?_ | refine w_exit ?_ | refine w_ret ?_
    | fail
    )
        intro j hj
        by_cases hji : j = i
        · rw [hji, qa, qb, he]
        · exact h3 j (by omega)
      · have hb : (!(decide (a[i] = b[i]))) = true := by simp [he]
        have hne : a ≠ b := fun h => he (by subst h; rfl)
        (repeat' first
    | refine w_seq ?_ | refine w_rg ?_ | refine wo_nil ?_ | refine g_skU ?_ | refine g_skT ?_ | refine g_skF ?_
    | ((first | apply s_plain | apply s_void | apply s_guard | apply g_goT | apply g_goF); · simp only [go_sem, Nat.reduceEqDiff, Nat.reduceAdd, Nat.reduceLeDiff, hb]; (first | done | rfl))
    | ((first | apply g_T | apply g_F | apply g_gT | apply g_gF); · intro q1_; (first | intro q2_ | have q2_ := q1_); simp only [go_sem, Nat.reduceEqDiff, Nat.reduceAdd, Nat.reduceLeDiff, hb, q1_, q2_]; (first | done | rfl))
    | (apply w_condX; · simp only [go_sem, Nat.reduceEqDiff, Nat.reduceAdd, Nat.reduceLeDiff, hb]; (first | done | rfl)); (first | refine wcd_T ?_ | refine wcd_F ?_)
    | refine w_skip ?_ | refine w_exit ?_ | refine w_ret ?_
    | fail
    )
        exact ⟨by first | exact .inr rfl | exact .inr trivial | exact .inl rfl, by simp only [go_sem, Nat.reduceEqDiff, Nat.reduceAdd, Nat.reduceLeDiff, retOf, resOf, decide_eq_false hne]; first | done | rfl⟩
    · rintro fr1 σ1 h3 hfr
      try simp only [if_true]
      have heq : a = b := List.ext_getElem? fun i => by
        by_cases hi : i < a.length
        · exact h3 i hi
        · rw [List.getElem?_eq_none (by omega), List.getElem?_eq_none (by omega)]
      (repeat' first
    | refine w_seq ?_ | refine w_rg ?_ | refine wo_nil ?_ | refine g_skU ?_ | refine g_skT ?_ | refine g_skF ?_
    | ((first | apply s_plain | apply s_void | apply s_guard | apply g_goT | apply g_goF); · simp only [go_sem, Nat.reduceEqDiff, Nat.reduceAdd, Nat.reduceLeDiff]; (first | done | rfl))
    | ((first | apply g_T | apply g_F | apply g_gT | apply g_gF); · intro q1_; (first | intro q2_ | have q2_ := q1_); simp only [go_sem, Nat.reduceEqDiff, Nat.reduceAdd, Nat.reduceLeDiff, q1_, q2_]; (first | done | rfl))
    | (apply w_condX; · simp only [go_sem, Nat.reduceEqDiff, Nat.reduceAdd, Nat.reduceLeDiff]; (first | done | rfl)); (first | refine wcd_T ?_ | refine wcd_F ?_)
    | refine w_skip ?_ | refine w_exit ?_ | refine w_ret ?_
    | fail
    )
      exact ⟨by first | exact .inr rfl | exact .inr trivial | exact .inl rfl, by simp only [go_sem, Nat.reduceEqDiff, Nat.reduceAdd, Nat.reduceLeDiff, retOf, resOf, decide_eq_true heq]; first | done | rfl⟩
  · have hc : ((a.length : Int) != (b.length : Int)) = true := by simp; omega
    have hne : a ≠ b := fun h => hl (by rw [h])
    (repeat' first
    | refine w_seq ?_ | refine w_rg ?_ | refine wo_nil ?_ | refine g_skU ?_ | refine g_skT ?_ | refine g_skF ?_
    | ((first | apply s_plain | apply s_void | apply s_guard | apply g_goT | apply g_goF); · simp only [go_sem, Nat.reduceEqDiff, Nat.reduceAdd, Nat.reduceLeDiff, hc]; (first | done | rfl))
    | ((first | apply g_T | apply g_F | apply g_gT | apply g_gF); · intro q1_; (first | intro q2_ | have q2_ := q1_); simp only [go_sem, Nat.reduceEqDiff, Nat.reduceAdd, Nat.reduceLeDiff, hc, q1_, q2_]; (first | done | rfl))
    | (apply w_condX; · simp only [go_sem, Nat.reduceEqDiff, Nat.reduceAdd, Nat.reduceLeDiff, hc]; (first | done | rfl)); (first | refine wcd_T ?_ | refine wcd_F ?_)
    | refine w_skip ?_ | refine w_exit ?_ | refine w_ret ?_
    | fail
    )
    exact ⟨by first | exact .inr rfl | exact .inr trivial | exact .inl rfl, by simp only [go_sem, Nat.reduceEqDiff, Nat.reduceAdd, Nat.reduceLeDiff, retOf, resOf, decide_eq_false hne]; first | done | rfl⟩
theorem a35 (D : Has lhe env) {a b : List ByteArray} (hn : a.length ≤ 9223372036854775807) : AV env 35 [.sl (strs a), .sl (strs b)] = some (.sc (.bool (decide (a = b)))) := by
  refine AV_wp (D (35, d35) (by simp [lhe])) rfl ?_
  have hla := strs_len a
  have hlb := strs_len b
  (repeat' first
    | refine w_seq ?_ | refine w_rg ?_ | refine wo_nil ?_ | refine g_skU ?_ | refine g_skT ?_ | refine g_skF ?_
    | ((first | apply s_plain | apply s_void | apply s_guard | apply g_goT | apply g_goF); · simp only [go_sem, Nat.reduceEqDiff, Nat.reduceAdd, Nat.reduceLeDiff, hla, hlb]; (first | done | rfl))
    | ((first | apply g_T | apply g_F | apply g_gT | apply g_gF); · intro q1_; (first | intro q2_ | have q2_ := q1_); simp only [go_sem, Nat.reduceEqDiff, Nat.reduceAdd, Nat.reduceLeDiff, hla, hlb, q1_, q2_]; (first | done | rfl))
    | fail
    )
  by_cases hl : a.length = b.length
  · have hc : ((a.length : Int) != (b.length : Int)) = false := by rw [hl]; simp
    (repeat' first
    | refine w_seq ?_ | refine w_rg ?_ | refine wo_nil ?_ | refine g_skU ?_ | refine g_skT ?_ | refine g_skF ?_
    | ((first | apply s_plain | apply s_void | apply s_guard | apply g_goT | apply g_goF); · simp only [go_sem, Nat.reduceEqDiff, Nat.reduceAdd, Nat.reduceLeDiff, hc]; (first | done | rfl))
    | ((first | apply g_T | apply g_F | apply g_gT | apply g_gF); · intro q1_; (first | intro q2_ | have q2_ := q1_); simp only [go_sem, Nat.reduceEqDiff, Nat.reduceAdd, Nat.reduceLeDiff, hc, q1_, q2_]; (first | done | rfl))
    | (apply w_condX; · simp only [go_sem, Nat.reduceEqDiff, Nat.reduceAdd, Nat.reduceLeDiff, hc]; (first | done | rfl)); (first | refine wcd_T ?_ | refine wcd_F ?_)
    | refine w_skip ?_ | refine w_exit ?_ | refine w_ret ?_
    | fail
    )
    (repeat' first
    | refine w_seq ?_ | refine w_rg ?_ | refine wo_nil ?_ | refine g_skU ?_ | refine g_skT ?_ | refine g_skF ?_
    | ((first | apply s_plain | apply s_void | apply s_guard | apply g_goT | apply g_goF); · simp only [go_sem, Nat.reduceEqDiff, Nat.reduceAdd, Nat.reduceLeDiff, hla]; (first | done | rfl))
    | ((first | apply g_T | apply g_F | apply g_gT | apply g_gF); · intro q1_; (first | intro q2_ | have q2_ := q1_); simp only [go_sem, Nat.reduceEqDiff, Nat.reduceAdd, Nat.reduceLeDiff, hla, q1_, q2_]; (first | done | rfl))
    | fail
    )
    refine w_block (w_rangeF a.length hn (fun i fr σ => ∀ j, j < i → a[j]? = b[j]?) ⟨by decide, rfl, rfl⟩ (fun _ _ _ _ h => ⟨h, h, h⟩) (fun j hj => by omega) (by simp only [go_sem, Nat.reduceEqDiff, Nat.reduceAdd, Nat.reduceLeDiff]; first | done | rfl) (by simp only [go_sem, Nat.reduceEqDiff, Nat.reduceAdd, Nat.reduceLeDiff, hla]; first | done | rfl) ?_ ?_)
    · rintro i fr1 σ1 hi h3 hti hfr
      have f0_0 := hfr 0 rfl; have f0_1 := hfr 1 rfl; have f0_12 := hfr 12 rfl; try (simp only [go_sem, Nat.reduceEqDiff, Nat.reduceAdd, Nat.reduceLeDiff] at f0_0); try (simp only [go_sem, Nat.reduceEqDiff, Nat.reduceAdd, Nat.reduceLeDiff] at f0_1); try (simp only [go_sem, Nat.reduceEqDiff, Nat.reduceAdd, Nat.reduceLeDiff] at f0_12)
      have hi2 : i < b.length := by omega
      have qa := List.getElem?_eq_getElem hi
      have qb := List.getElem?_eq_getElem hi2
      have hx := strs_at qa
      have hy := strs_at qb
      have e1 : (0 : Int) ≤ (i : Int) ∧ (i : Int) < (a.length : Int) := by omega
      have e2 : (0 : Int) ≤ (i : Int) ∧ (i : Int) < (b.length : Int) := by omega
      refine w_block ?_
      (repeat' first
    | refine w_seq ?_ | refine w_rg ?_ | refine wo_nil ?_ | refine g_skU ?_ | refine g_skT ?_ | refine g_skF ?_
    | ((first | apply s_plain | apply s_void | apply s_guard | apply g_goT | apply g_goF); · simp only [go_sem, Nat.reduceEqDiff, Nat.reduceAdd, Nat.reduceLeDiff, f0_0, f0_1, f0_12, hti, e1, e2, hla, hlb, Int.toNat_natCast, hx, hy, ba_beq]; (first | done | rfl))
    | ((first | apply g_T | apply g_F | apply g_gT | apply g_gF); · intro q1_; (first | intro q2_ | have q2_ := q1_); simp only [go_sem, Nat.reduceEqDiff, Nat.reduceAdd, Nat.reduceLeDiff, f0_0, f0_1, f0_12, hti, e1, e2, hla, hlb, Int.toNat_natCast, hx, hy, ba_beq, q1_, q2_]; (first | done | rfl))
    | fail
    )
      by_cases he : a[i] = b[i]
      · have hb : (!(decide (a[i] = b[i]))) = false := by simp [he]
        (repeat' first
    | refine w_seq ?_ | refine w_rg ?_ | refine wo_nil ?_ | refine g_skU ?_ | refine g_skT ?_ | refine g_skF ?_
    | ((first | apply s_plain | apply s_void | apply s_guard | apply g_goT | apply g_goF); · simp only [go_sem, Nat.reduceEqDiff, Nat.reduceAdd, Nat.reduceLeDiff, hb]; (first | done | rfl))
    | ((first | apply g_T | apply g_F | apply g_gT | apply g_gF); · intro q1_; (first | intro q2_ | have q2_ := q1_); simp only [go_sem, Nat.reduceEqDiff, Nat.reduceAdd, Nat.reduceLeDiff, hb, q1_, q2_]; (first | done | rfl))
    | (apply w_condX; · simp only [go_sem, Nat.reduceEqDiff, Nat.reduceAdd, Nat.reduceLeDiff, hb]; (first | done | rfl)); (first | refine wcd_T ?_ | refine wcd_F ?_)
    | refine w_skip ?_ | refine w_exit ?_ | refine w_ret ?_
    | fail
    )
        intro j hj
        by_cases hji : j = i
        · rw [hji, qa, qb, he]
        · exact h3 j (by omega)
      · have hb : (!(decide (a[i] = b[i]))) = true := by simp [he]
        have hne : a ≠ b := fun h => he (by subst h; rfl)
        (repeat' first
    | refine w_seq ?_ | refine w_rg ?_ | refine wo_nil ?_ | refine g_skU ?_ | refine g_skT ?_ | refine g_skF ?_
    | ((first | apply s_plain | apply s_void | apply s_guard | apply g_goT | apply g_goF); · simp only [go_sem, Nat.reduceEqDiff, Nat.reduceAdd, Nat.reduceLeDiff, hb]; (first | done | rfl))
    | ((first | apply g_T | apply g_F | apply g_gT | apply g_gF); · intro q1_; (first | intro q2_ | have q2_ := q1_); simp only [go_sem, Nat.reduceEqDiff, Nat.reduceAdd, Nat.reduceLeDiff, hb, q1_, q2_]; (first | done | rfl))
    | (apply w_condX; · simp only [go_sem, Nat.reduceEqDiff, Nat.reduceAdd, Nat.reduceLeDiff, hb]; (first | done | rfl)); (first | refine wcd_T ?_ | refine wcd_F ?_)
    | refine w_skip ?_ | refine w_exit ?_ | refine w_ret ?_
    | fail
    )
        exact ⟨by first | exact .inr rfl | exact .inr trivial | exact .inl rfl, by simp only [go_sem, Nat.reduceEqDiff, Nat.reduceAdd, Nat.reduceLeDiff, retOf, resOf, decide_eq_false hne]; first | done | rfl⟩
    · rintro fr1 σ1 h3 hfr
      try simp only [if_true]
      have heq : a = b := List.ext_getElem? fun i => by
        by_cases hi : i < a.length
        · exact h3 i hi
        · rw [List.getElem?_eq_none (by omega), List.getElem?_eq_none (by omega)]
      (repeat' first
    | refine w_seq ?_ | refine w_rg ?_ | refine wo_nil ?_ | refine g_skU ?_ | refine g_skT ?_ | refine g_skF ?_
    | ((first | apply s_plain | apply s_void | apply s_guard | apply g_goT | apply g_goF); · simp only [go_sem, Nat.reduceEqDiff, Nat.reduceAdd, Nat.reduceLeDiff]; (first | done | rfl))
    | ((first | apply g_T | apply g_F | apply g_gT | apply g_gF); · intro q1_; (first | intro q2_ | have q2_ := q1_); simp only [go_sem, Nat.reduceEqDiff, Nat.reduceAdd, Nat.reduceLeDiff, q1_, q2_]; (first | done | rfl))
    | (apply w_condX; · simp only [go_sem, Nat.reduceEqDiff, Nat.reduceAdd, Nat.reduceLeDiff]; (first | done | rfl)); (first | refine wcd_T ?_ | refine wcd_F ?_)
    | refine w_skip ?_ | refine w_exit ?_ | refine w_ret ?_
    | fail
    )
      exact ⟨by first | exact .inr rfl | exact .inr trivial | exact .inl rfl, by simp only [go_sem, Nat.reduceEqDiff, Nat.reduceAdd, Nat.reduceLeDiff, retOf, resOf, decide_eq_true heq]; first | done | rfl⟩
  · have hc : ((a.length : Int) != (b.length : Int)) = true := by simp; omega
    have hne : a ≠ b := fun h => hl (by rw [h])
    (repeat' first
    | refine w_seq ?_ | refine w_rg ?_ | refine wo_nil ?_ | refine g_skU ?_ | refine g_skT ?_ | refine g_skF ?_
    | ((first | apply s_plain | apply s_void | apply s_guard | apply g_goT | apply g_goF); · simp only [go_sem, Nat.reduceEqDiff, Nat.reduceAdd, Nat.reduceLeDiff, hc]; (first | done | rfl))
    | ((first | apply g_T | apply g_F | apply g_gT | apply g_gF); · intro q1_; (first | intro q2_ | have q2_ := q1_); simp only [go_sem, Nat.reduceEqDiff, Nat.reduceAdd, Nat.reduceLeDiff, hc, q1_, q2_]; (first | done | rfl))
    | (apply w_condX; · simp only [go_sem, Nat.reduceEqDiff, Nat.reduceAdd, Nat.reduceLeDiff, hc]; (first | done | rfl)); (first | refine wcd_T ?_ | refine wcd_F ?_)
    | refine w_skip ?_ | refine w_exit ?_ | refine w_ret ?_
    | fail
    )
    exact ⟨by first | exact .inr rfl | exact .inr trivial | exact .inl rfl, by simp only [go_sem, Nat.reduceEqDiff, Nat.reduceAdd, Nat.reduceLeDiff, retOf, resOf, decide_eq_false hne]; first | done | rfl⟩
end

section
variable {env : Nat → Option Def} {fr : Fr} {σ σ' σ'' : St} {K : Fr → St → Prop} {Q : X → Fr → St → Prop} {p : PV} {bs : List UInt8}
def nP (l : List UInt8) : Int := (l.filter (· != 45)).foldl addP 0
def sP (l : List UInt8) : Int := if 45 ∈ l then -1 else 1
theorem numP_parts (s : List UInt8) : numP s = sP (s.take 15) * nP (s.take 15) := rfl
theorem nP_snoc (l : List UInt8) (c : UInt8) : nP (l ++ [c]) = if c = 45 then nP l else addP (nP l) c := by
  unfold nP
  rw [List.filter_append, List.foldl_append]
  by_cases h : c = 45
  · simp [h]
  · simp [h]
theorem sP_snoc (l : List UInt8) (c : UInt8) : sP (l ++ [c]) = if c = 45 then -1 else sP l := by
  unfold sP
  by_cases h : c = 45
  · subst h; simp
  · have : ¬ (45 : UInt8) = c := fun e => h e.symm
    simp [h, this]
theorem fold_in : ∀ (l : List UInt8) (n : Int), 0 ≤ n → 0 ≤ l.foldl addP n ∧ l.foldl addP n + 2 ≤ (n + 2) * ((10 ^ l.length : Nat) : Int)
  | [], n, h => ⟨h, by simp⟩
  | c :: l, n, h => by
    have hm : c.toNat % 16 < 16 := Nat.mod_lt _ (by decide)
    have h0 : 0 ≤ addP n c := by unfold addP; omega
    obtain ⟨h1, h2⟩ := fold_in l (addP n c) h0
    refine ⟨h1, Int.le_trans h2 ?_⟩
    rw [List.length_cons, Nat.pow_succ, Int.natCast_mul, Int.mul_comm ((10 ^ l.length : Nat) : Int), ← Int.mul_assoc]
    refine Int.mul_le_mul_of_nonneg_right ?_ (Int.natCast_nonneg _)
    unfold addP; omega
theorem nP_lim (l : List UInt8) (h : l.length ≤ 15) : 0 ≤ nP l ∧ nP l ≤ 2000000000000000 := by
  have ⟨h1, h2⟩ := fold_in (l.filter (· != 45)) 0 (Int.le_refl _)
  have h3 : 10 ^ (l.filter (· != 45)).length ≤ 10 ^ 15 := Nat.pow_le_pow_right (by decide) (Nat.le_trans (List.length_filter_le _ _) h)
  have h4 : 10 ^ 15 = 1000000000000000 := by decide
  unfold nP
  rw [h4] at h3
  have h5 : ((10 ^ (l.filter (· != 45)).length : Nat) : Int) ≤ 1000000000000000 := Int.ofNat_le.2 h3
  generalize ((10 ^ (l.filter (· != 45)).length : Nat) : Int) = q at *
  omega
theorem and15 (c : UInt8) : IntKind.u8.wrap ((BitVec.ofInt 8 (c.toNat : Int) &&& BitVec.ofInt 8 15).toNat : Int) = ((c.toNat % 16 : Nat) : Int) := by
  have : ∀ n : Fin 256, IntKind.u8.wrap ((BitVec.ofInt 8 ((n.val : Nat) : Int) &&& BitVec.ofInt 8 15).toNat : Int) = ((n.val % 16 : Nat) : Int) := by decide +kernel
  exact this ⟨c.toNat, c.toNat_lt⟩
theorem a205 (C : Has lhc env) {s : List UInt8} (hs : s.length ≤ 9223372036854775807) : AV env 205 [txt s] = some (.sc (.int .i64 (numP s))) := by
  refine AV_wp (C (205, d205) (by simp [lhc])) rfl ?_
  (repeat' first
    | refine w_seq ?_ | refine w_rg ?_ | refine wo_nil ?_ | refine g_skU ?_ | refine g_skT ?_ | refine g_skF ?_
    | ((first | apply s_plain | apply s_void | apply s_guard | apply g_goT | apply g_goF); · simp only [go_sem, Nat.reduceEqDiff, Nat.reduceAdd, Nat.reduceLeDiff, mn2, ba_data, ba_size, ba_toList, ba_extract, ba_append, List.toList_toArray]; (first | done | rfl))
    | ((first | apply g_T | apply g_F | apply g_gT | apply g_gF); · intro q1_; (first | intro q2_ | have q2_ := q1_); simp only [go_sem, Nat.reduceEqDiff, Nat.reduceAdd, Nat.reduceLeDiff, mn2, ba_data, ba_size, ba_toList, ba_extract, ba_append, List.toList_toArray, q1_, q2_]; (first | done | rfl))
    | fail
    )
  refine w_block (w_range (min s.length 15) (by omega) (fun i fr σ => fr 0 = txt s ∧ fr 3 = .sc (.int .i64 (nP (s.take i))) ∧ fr 4 = .sc (.int .i64 (sP (s.take i)))) (by decide) ?_ ?_ ?_ _ _ ?_ ?_ ?_)
  · rintro i fr σ v ⟨h0, h1, h2⟩
    refine ⟨⟨?_, ?_, ?_⟩, ⟨?_, ?_, ?_⟩, ⟨?_, ?_, ?_⟩⟩ <;> simp only [go_sem, Nat.reduceEqDiff, Nat.reduceAdd, Nat.reduceLeDiff, h0, h1, h2]
  · rintro i fr σ hi ⟨h0, h3, h4⟩ hti htn
    have hil : i < s.length := by omega
    have e1 : (0 : Int) ≤ (i : Int) ∧ (i : Int) < (s.length : Int) := by omega
    have hx := List.getElem?_eq_getElem hil
    have t1 := nP_snoc (s.take i) s[i]
    have t2 := sP_snoc (s.take i) s[i]
    rw [← List.take_succ_eq_append_getElem hil] at t1 t2
    have hlim := nP_lim (s.take i) (by rw [List.length_take]; omega)
    have hand := and15 s[i]
    have hm : s[i].toNat % 16 < 16 := Nat.mod_lt _ (by decide)
    refine w_block ?_
    (repeat' first
    | refine w_seq ?_ | refine w_rg ?_ | refine wo_nil ?_ | refine g_skU ?_ | refine g_skT ?_ | refine g_skF ?_
    | ((first | apply s_plain | apply s_void | apply s_guard | apply g_goT | apply g_goF); · simp only [go_sem, Nat.reduceEqDiff, Nat.reduceAdd, Nat.reduceLeDiff, h0, hti, e1, Int.toNat_natCast, hx, ba_data, ba_size, ba_toList, ba_extract, ba_append, List.toList_toArray]; (first | done | rfl))
    | ((first | apply g_T | apply g_F | apply g_gT | apply g_gF); · intro q1_; (first | intro q2_ | have q2_ := q1_); simp only [go_sem, Nat.reduceEqDiff, Nat.reduceAdd, Nat.reduceLeDiff, h0, hti, e1, Int.toNat_natCast, hx, ba_data, ba_size, ba_toList, ba_extract, ba_append, List.toList_toArray, q1_, q2_]; (first | done | rfl))
    | fail
    )
    refine w_condB (b := (s[i].toNat : Int) == 45) (by simp only [go_sem, Nat.reduceEqDiff, Nat.reduceAdd, Nat.reduceLeDiff]; first | done | rfl) (fun hc => ?_) (fun hc => ?_)
    · have hb : s[i] = 45 := UInt8.toNat_inj.1 (by have := eq_of_beq hc; simpa using (by omega : s[i].toNat = 45))
      rw [if_pos hb] at t1 t2
      (repeat' first
    | refine w_seq ?_ | refine w_rg ?_ | refine wo_nil ?_ | refine g_skU ?_ | refine g_skT ?_ | refine g_skF ?_
    | ((first | apply s_plain | apply s_void | apply s_guard | apply g_goT | apply g_goF); · simp only [go_sem, Nat.reduceEqDiff, Nat.reduceAdd, Nat.reduceLeDiff]; (first | done | rfl))
    | ((first | apply g_T | apply g_F | apply g_gT | apply g_gF); · intro q1_; (first | intro q2_ | have q2_ := q1_); simp only [go_sem, Nat.reduceEqDiff, Nat.reduceAdd, Nat.reduceLeDiff, q1_, q2_]; (first | done | rfl))
    | (apply w_condX; · simp only [go_sem, Nat.reduceEqDiff, Nat.reduceAdd, Nat.reduceLeDiff]; (first | done | rfl)); (first | refine wcd_T ?_ | refine wcd_F ?_)
    | refine w_skip ?_ | refine w_exit ?_ | refine w_ret ?_
    | fail
    )
      refine ⟨⟨?_, ?_, ?_⟩, ?_, ?_⟩
      · simp only [go_sem, Nat.reduceEqDiff, Nat.reduceAdd, Nat.reduceLeDiff, h0]
      · simp only [go_sem, Nat.reduceEqDiff, Nat.reduceAdd, Nat.reduceLeDiff, h3, t1]
      · simp only [go_sem, Nat.reduceEqDiff, Nat.reduceAdd, Nat.reduceLeDiff, t2]
      · simp only [go_sem, Nat.reduceEqDiff, Nat.reduceAdd, Nat.reduceLeDiff, hti]
      · simp only [go_sem, Nat.reduceEqDiff, Nat.reduceAdd, Nat.reduceLeDiff, htn]
    · have hb : ¬ s[i] = 45 := fun h => by rw [h] at hc; simp at hc
      rw [if_neg hb] at t1 t2
      have w1 : IntKind.i64.wrap (10 * nP (s.take i)) = 10 * nP (s.take i) := by rw [IntKind.wrap_i64]; omega
      have w2 : IntKind.i64.wrap (10 * nP (s.take i) + ((s[i].toNat % 16 : Nat) : Int)) = addP (nP (s.take i)) s[i] := by rw [IntKind.wrap_i64]; unfold addP; omega
      have w3 : IntKind.i64.wrap ((s[i].toNat % 16 : Nat) : Int) = ((s[i].toNat % 16 : Nat) : Int) := by rw [IntKind.wrap_i64]; omega
      (repeat' first
    | refine w_seq ?_ | refine w_rg ?_ | refine wo_nil ?_ | refine g_skU ?_ | refine g_skT ?_ | refine g_skF ?_
    | ((first | apply s_plain | apply s_void | apply s_guard | apply g_goT | apply g_goF); · simp only [go_sem, Nat.reduceEqDiff, Nat.reduceAdd, Nat.reduceLeDiff, h3, w1]; (first | done | rfl))
    | ((first | apply g_T | apply g_F | apply g_gT | apply g_gF); · intro q1_; (first | intro q2_ | have q2_ := q1_); simp only [go_sem, Nat.reduceEqDiff, Nat.reduceAdd, Nat.reduceLeDiff, h3, w1, q1_, q2_]; (first | done | rfl))
    | (apply w_condX; · simp only [go_sem, Nat.reduceEqDiff, Nat.reduceAdd, Nat.reduceLeDiff, h3, w1]; (first | done | rfl)); (first | refine wcd_T ?_ | refine wcd_F ?_)
    | refine w_skip ?_ | refine w_exit ?_ | refine w_ret ?_
    | fail
    )
      (repeat' first
    | refine w_seq ?_ | refine w_rg ?_ | refine wo_nil ?_ | refine g_skU ?_ | refine g_skT ?_ | refine g_skF ?_
    | ((first | apply s_plain | apply s_void | apply s_guard | apply g_goT | apply g_goF); · simp only [go_sem, Nat.reduceEqDiff, Nat.reduceAdd, Nat.reduceLeDiff, h0, h3, hti, e1, Int.toNat_natCast, hx, ba_data, ba_size, ba_toList, ba_extract, ba_append, List.toList_toArray, w1]; (first | done | rfl))
    | ((first | apply g_T | apply g_F | apply g_gT | apply g_gF); · intro q1_; (first | intro q2_ | have q2_ := q1_); simp only [go_sem, Nat.reduceEqDiff, Nat.reduceAdd, Nat.reduceLeDiff, h0, h3, hti, e1, Int.toNat_natCast, hx, ba_data, ba_size, ba_toList, ba_extract, ba_append, List.toList_toArray, w1, q1_, q2_]; (first | done | rfl))
    | fail
    )
      generalize hq : IntKind.u8.wrap _ = q
      obtain rfl : q = ((s[i].toNat % 16 : Nat) : Int) := hq.symm.trans hand
      refine ⟨⟨?_, ?_, ?_⟩, ?_, ?_⟩
      · simp only [go_sem, Nat.reduceEqDiff, Nat.reduceAdd, Nat.reduceLeDiff, h0]
      · simp only [go_sem, Nat.reduceEqDiff, Nat.reduceAdd, Nat.reduceLeDiff, w3, w2, t1]
      · simp only [go_sem, Nat.reduceEqDiff, Nat.reduceAdd, Nat.reduceLeDiff, h4, t2]
      · simp only [go_sem, Nat.reduceEqDiff, Nat.reduceAdd, Nat.reduceLeDiff, hti]
      · simp only [go_sem, Nat.reduceEqDiff, Nat.reduceAdd, Nat.reduceLeDiff, htn]
  · rintro fr σ ⟨h0, h3, h4⟩
    have hlim := nP_lim (s.take 15) (by rw [List.length_take]; omega)
    have hm : s.take (min s.length 15) = s.take 15 := by
      rw [List.take_eq_take_iff]; omega
    rw [hm] at h3 h4
    have hw : IntKind.i64.wrap (sP (s.take 15) * nP (s.take 15)) = numP s := by
      rw [numP_parts]
      unfold sP
      split
      · rw [IntKind.wrap_i64]; omega
      · rw [IntKind.wrap_i64]; omega
    try simp only [if_true]
    (repeat' first
    | refine w_seq ?_ | refine w_rg ?_ | refine wo_nil ?_ | refine g_skU ?_ | refine g_skT ?_ | refine g_skF ?_
    | ((first | apply s_plain | apply s_void | apply s_guard | apply g_goT | apply g_goF); · simp only [go_sem, Nat.reduceEqDiff, Nat.reduceAdd, Nat.reduceLeDiff, h3, h4, hw]; (first | done | rfl))
    | ((first | apply g_T | apply g_F | apply g_gT | apply g_gF); · intro q1_; (first | intro q2_ | have q2_ := q1_); simp only [go_sem, Nat.reduceEqDiff, Nat.reduceAdd, Nat.reduceLeDiff, h3, h4, hw, q1_, q2_]; (first | done | rfl))
    | (apply w_condX; · simp only [go_sem, Nat.reduceEqDiff, Nat.reduceAdd, Nat.reduceLeDiff, h3, h4, hw]; (first | done | rfl)); (first | refine wcd_T ?_ | refine wcd_F ?_)
    | refine w_skip ?_ | refine w_exit ?_ | refine w_ret ?_
    | fail
    )
    exact ⟨by first | exact .inr rfl | exact .inr trivial | exact .inl rfl, by simp only [go_sem, Nat.reduceEqDiff, Nat.reduceAdd, Nat.reduceLeDiff, retOf, resOf]; first | done | rfl⟩
  · refine ⟨?_, ?_, ?_⟩
    · simp only [go_sem, Nat.reduceEqDiff, Nat.reduceAdd, Nat.reduceLeDiff]
    · simp only [go_sem, Nat.reduceEqDiff, Nat.reduceAdd, Nat.reduceLeDiff]; rfl
    · simp only [go_sem, Nat.reduceEqDiff, Nat.reduceAdd, Nat.reduceLeDiff]; rfl
  · simp only [go_sem, Nat.reduceEqDiff, Nat.reduceAdd, Nat.reduceLeDiff]
  · simp only [go_sem, Nat.reduceEqDiff, Nat.reduceAdd, Nat.reduceLeDiff]; exact congrArg (fun n => PV.sc (.int .i64 n)) (by omega)
theorem a210 (C : Has lhc env) {how : Int} (h : 1 ≤ how ∧ how ≤ 5) : AV env 210 [.sc (.int .i64 how)] = some (.sc (.string (signT how))) := by
  refine AV_wp (C (210, d210) (by simp [lhc])) rfl ?_
  obtain rfl | rfl | rfl | rfl | rfl : how = 1 ∨ how = 2 ∨ how = 3 ∨ how = 4 ∨ how = 5 := by omega
  all_goals
    (repeat' first
    | refine w_seq ?_ | refine w_rg ?_ | refine wo_nil ?_ | refine g_skU ?_ | refine g_skT ?_ | refine g_skF ?_
    | ((first | apply s_plain | apply s_void | apply s_guard | apply g_goT | apply g_goF); · simp only [go_sem, Nat.reduceEqDiff, Nat.reduceAdd, Nat.reduceLeDiff, List.replicate_succ, List.replicate_zero, List.set_cons_zero, List.set_cons_succ]; (first | done | rfl))
    | ((first | apply g_T | apply g_F | apply g_gT | apply g_gF); · intro q1_; (first | intro q2_ | have q2_ := q1_); simp only [go_sem, Nat.reduceEqDiff, Nat.reduceAdd, Nat.reduceLeDiff, List.replicate_succ, List.replicate_zero, List.set_cons_zero, List.set_cons_succ, q1_, q2_]; (first | done | rfl))
    | (apply w_condX; · simp only [go_sem, Nat.reduceEqDiff, Nat.reduceAdd, Nat.reduceLeDiff, List.replicate_succ, List.replicate_zero, List.set_cons_zero, List.set_cons_succ]; (first | done | rfl)); (first | refine wcd_T ?_ | refine wcd_F ?_)
    | refine w_skip ?_ | refine w_exit ?_ | refine w_ret ?_
    | fail
    )
    exact ⟨by first | exact .inr rfl | exact .inr trivial | exact .inl rfl, by simp only [go_sem, Nat.reduceEqDiff, Nat.reduceAdd, Nat.reduceLeDiff, retOf, resOf]; first | done | rfl⟩
theorem a197 (U : Has lu env) (A : Has lha env) (C : Has lhc env) {r : Rule} (h : rightR r = true) : AV env 197 [rule r] = some (.sl (strs (wordsR r))) := by
  have p := right_parts h
  have h1 := a210 C p.how
  have h2 := a203 A (n := r.limit) (by have := p.limit; omega) (by have := p.limit; omega)
  have h3 := a203 A (n := r.for_) (by have := p.for_; omega) (by have := p.for_; omega)
  have h4 := a203 A (n := r.keep) (by have := p.keep; omega) (by have := p.keep; omega)
  have h5 := a203 A (n := r.tries) (by have := p.tries; omega) (by have := p.tries; omega)
  have h6 := a211 U (l := r.labels) (fun m hm => may_size ((right_iff.1 p.labels).1 m hm)) (right_len p.labels)
  refine AV_wp (C (197, d197) (by simp [lhc])) rfl ?_
  unfold rule
  (repeat' first
    | refine w_seq ?_ | refine w_rg ?_ | refine wo_nil ?_ | refine g_skU ?_ | refine g_skT ?_ | refine g_skF ?_
    | ((first | apply s_plain | apply s_void | apply s_guard | apply g_goT | apply g_goF); · simp only [go_sem, Nat.reduceEqDiff, Nat.reduceAdd, Nat.reduceLeDiff, h1, h2, h3, h4, h5, h6]; (first | done | rfl))
    | ((first | apply g_T | apply g_F | apply g_gT | apply g_gF); · intro q1_; (first | intro q2_ | have q2_ := q1_); simp only [go_sem, Nat.reduceEqDiff, Nat.reduceAdd, Nat.reduceLeDiff, h1, h2, h3, h4, h5, h6, q1_, q2_]; (first | done | rfl))
    | (apply w_condX; · simp only [go_sem, Nat.reduceEqDiff, Nat.reduceAdd, Nat.reduceLeDiff, h1, h2, h3, h4, h5, h6]; (first | done | rfl)); (first | refine wcd_T ?_ | refine wcd_F ?_)
    | refine w_skip ?_ | refine w_exit ?_ | refine w_ret ?_
    | fail
    )
  exact ⟨by first | exact .inr rfl | exact .inr trivial | exact .inl rfl, by simp only [go_sem, Nat.reduceEqDiff, Nat.reduceAdd, Nat.reduceLeDiff, retOf, resOf]; first | done | rfl⟩
def cutT (l : List ByteArray) : List ByteArray := (l.take (min l.length 10)).map (cutS 700)
theorem cutT_len (l : List ByteArray) : (cutT l).length = min l.length 10 := by simp [cutT]
theorem cutT_size (l : List ByteArray) : ∀ s ∈ cutT l, s.size ≤ 700 := by
  intro s hs
  obtain ⟨t, _, rfl⟩ := List.mem_map.1 hs
  unfold cutS
  rw [ByteArray.size_extract]; omega
theorem a194 (C : Has lhc env) {l : List ByteArray} (hn : l.length ≤ 9223372036854775807) : AV env 194 [.sl (strs l)] = some (.sl (strs (cutT l))) := by
  refine AV_wp (C (194, d194) (by simp [lhc])) rfl ?_
  have hll := strs_len l
  have hall : (strs l).all (fun x => (cellsOf x).length == 1) = true := by
    rw [List.all_eq_true]
    intro x hx
    simp only [strs, List.mem_map] at hx
    obtain ⟨m, _, rfl⟩ := hx
    rfl
  (repeat' first
    | refine w_seq ?_ | refine w_rg ?_ | refine wo_nil ?_ | refine g_skU ?_ | refine g_skT ?_ | refine g_skF ?_
    | ((first | apply s_plain | apply s_void | apply s_guard | apply g_goT | apply g_goF); · simp only [go_sem, Nat.reduceEqDiff, Nat.reduceAdd, Nat.reduceLeDiff, hll, mn2]; (first | done | rfl))
    | ((first | apply g_T | apply g_F | apply g_gT | apply g_gF); · intro q1_; (first | intro q2_ | have q2_ := q1_); simp only [go_sem, Nat.reduceEqDiff, Nat.reduceAdd, Nat.reduceLeDiff, hll, mn2, q1_, q2_]; (first | done | rfl))
    | fail
    )
  refine s_plain (v := .sl ((strs l).take (min l.length 10))) (σ' := St.nil) (by
    simp only [↓e_slcL]
    have h6 : pa _ (.t 6) = .sl (strs l) := (by simp only [go_sem, Nat.reduceEqDiff, Nat.reduceAdd, Nat.reduceLeDiff] : pa ((((((((frOf [PV.sl (strs l)]).set 2 PV.em).set 3 PV.em).set 6 (PV.sl (strs l))).set 7 (PV.sl (strs l))).set 8 (PV.sc (Value.int IntKind.i64 l.length))).set 9 (PV.sc (Value.int IntKind.i64 (min (l.length : Int) 10))))) (.t 6) = .sl (strs l))
    rw [h6, slcL_cut _ 9 10 1 (strs l) hall (by simp only [go_sem, Nat.reduceEqDiff, Nat.reduceAdd, Nat.reduceLeDiff, hll]; rfl), hll]
    rfl) ?_
  have hlt : ((strs l).take (min l.length 10)).length = min l.length 10 := by rw [List.length_take, hll]; omega
  (repeat' first
    | refine w_seq ?_ | refine w_rg ?_ | refine wo_nil ?_ | refine g_skU ?_ | refine g_skT ?_ | refine g_skF ?_
    | ((first | apply s_plain | apply s_void | apply s_guard | apply g_goT | apply g_goF); · simp only [go_sem, Nat.reduceEqDiff, Nat.reduceAdd, Nat.reduceLeDiff, hlt]; (first | done | rfl))
    | ((first | apply g_T | apply g_F | apply g_gT | apply g_gF); · intro q1_; (first | intro q2_ | have q2_ := q1_); simp only [go_sem, Nat.reduceEqDiff, Nat.reduceAdd, Nat.reduceLeDiff, hlt, q1_, q2_]; (first | done | rfl))
    | fail
    )
  refine w_block (w_range (min l.length 10) (by omega) (fun i fr σ => fr 10 = .sl ((strs l).take (min l.length 10)) ∧ Gat σ [23] 1 false (fr 3) ((strs (cutT l)).take i)) (by decide) ?_ ?_ ?_ _ _ ?_ ?_ ?_)
  · rintro i fr σ v ⟨h0, h1⟩
    refine ⟨⟨?_, ?_⟩, ⟨?_, ?_⟩, ⟨?_, ?_⟩⟩ <;> simp only [go_sem, Nat.reduceEqDiff, Nat.reduceAdd, Nat.reduceLeDiff, h0, h1]
  · rintro i fr σ hi ⟨h10, hg⟩ hti htn
    have hil : i < l.length := by omega
    have hx : ((strs l).take (min l.length 10))[i]? = some (.sc (.string l[i])) := by
      rw [List.getElem?_take, if_pos hi]
      exact strs_at (List.getElem?_eq_getElem hil)
    have e1 : (0 : Int) ≤ (i : Int) ∧ (i : Int) < ((min l.length 10 : Nat) : Int) := by omega
    refine w_block ?_
    have b7 : ∀ (n : Nat) (k : IntKind), bound n (.sc (.int k (min (n : Int) 700))) = some (min n 700) := fun n k => bound_min rfl
    (repeat' first
    | refine w_seq ?_ | refine w_rg ?_ | refine wo_nil ?_ | refine g_skU ?_ | refine g_skT ?_ | refine g_skF ?_
    | ((first | apply s_plain | apply s_void | apply s_guard | apply g_goT | apply g_goF); · simp only [go_sem, Nat.reduceEqDiff, Nat.reduceAdd, Nat.reduceLeDiff, h10, hti, e1, hlt, Int.toNat_natCast, hx, mn2, b7, fillE, List.replicate_succ, List.replicate_zero, List.set_cons_zero]; (first | done | rfl))
    | ((first | apply g_T | apply g_F | apply g_gT | apply g_gF); · intro q1_; (first | intro q2_ | have q2_ := q1_); simp only [go_sem, Nat.reduceEqDiff, Nat.reduceAdd, Nat.reduceLeDiff, h10, hti, e1, hlt, Int.toNat_natCast, hx, mn2, b7, fillE, List.replicate_succ, List.replicate_zero, List.set_cons_zero, q1_, q2_]; (first | done | rfl))
    | fail
    )
    have hL : (strs (cutT l)).take (i + 1) = (strs (cutT l)).take i ++ [.sc (.string (cutS 700 l[i]))] := by
      have hlen : i < (strs (cutT l)).length := by rw [strs_len, cutT_len]; exact hi
      rw [List.take_succ_eq_append_getElem hlen]
      congr 1
      simp [strs, cutT]
    have hlen : ((strs (cutT l)).take i).length ≤ 10 := by rw [List.length_take]; omega
    refine s_gatL (os := [23]) (ys := [.sc (.string (cutS 700 l[i]))]) (by simp only [go_sem, Nat.reduceEqDiff, Nat.reduceAdd, Nat.reduceLeDiff]; exact hg.new _) (by simp only [go_sem, Nat.reduceEqDiff, Nat.reduceAdd, Nat.reduceLeDiff, srcOf, elemsOf]; first | done | rfl) rfl (by simp only [List.length_cons, List.length_nil]; omega) ?_
    intro p σ' hg2 _
    rw [← hL] at hg2
    (repeat' first
    | refine w_seq ?_ | refine w_rg ?_ | refine wo_nil ?_ | refine g_skU ?_ | refine g_skT ?_ | refine g_skF ?_
    | ((first | apply s_plain | apply s_void | apply s_guard | apply g_goT | apply g_goF); · simp only [go_sem, Nat.reduceEqDiff, Nat.reduceAdd, Nat.reduceLeDiff]; (first | done | rfl))
    | ((first | apply g_T | apply g_F | apply g_gT | apply g_gF); · intro q1_; (first | intro q2_ | have q2_ := q1_); simp only [go_sem, Nat.reduceEqDiff, Nat.reduceAdd, Nat.reduceLeDiff, q1_, q2_]; (first | done | rfl))
    | fail
    )
    refine ⟨⟨?_, ?_⟩, ?_, ?_⟩
    · simp only [go_sem, Nat.reduceEqDiff, Nat.reduceAdd, Nat.reduceLeDiff, h10]
    · simp only [go_sem, Nat.reduceEqDiff, Nat.reduceAdd, Nat.reduceLeDiff]; exact hg2
    · simp only [go_sem, Nat.reduceEqDiff, Nat.reduceAdd, Nat.reduceLeDiff, hti]
    · simp only [go_sem, Nat.reduceEqDiff, Nat.reduceAdd, Nat.reduceLeDiff, htn]
  · rintro fr σ ⟨h10, hg⟩
    try simp only [if_true]
    rw [List.take_of_length_le (by rw [strs_len, cutT_len]; exact Nat.le_refl _)] at hg
    have hfz := hg.fz (strs_fz σ _)
    (repeat' first
    | refine w_seq ?_ | refine w_rg ?_ | refine wo_nil ?_ | refine g_skU ?_ | refine g_skT ?_ | refine g_skF ?_
    | ((first | apply s_plain | apply s_void | apply s_guard | apply g_goT | apply g_goF); · simp only [go_sem, Nat.reduceEqDiff, Nat.reduceAdd, Nat.reduceLeDiff]; (first | done | rfl))
    | ((first | apply g_T | apply g_F | apply g_gT | apply g_gF); · intro q1_; (first | intro q2_ | have q2_ := q1_); simp only [go_sem, Nat.reduceEqDiff, Nat.reduceAdd, Nat.reduceLeDiff, q1_, q2_]; (first | done | rfl))
    | (apply w_condX; · simp only [go_sem, Nat.reduceEqDiff, Nat.reduceAdd, Nat.reduceLeDiff]; (first | done | rfl)); (first | refine wcd_T ?_ | refine wcd_F ?_)
    | refine w_skip ?_ | refine w_exit ?_ | refine w_ret ?_
    | fail
    )
    exact ⟨.inr rfl, by simp only [go_sem, Nat.reduceEqDiff, Nat.reduceAdd, Nat.reduceLeDiff, retOf, resOf, hfz]⟩
  · exact ⟨by simp only [go_sem, Nat.reduceEqDiff, Nat.reduceAdd, Nat.reduceLeDiff], by simp only [go_sem, Nat.reduceEqDiff, Nat.reduceAdd, Nat.reduceLeDiff]; exact .em⟩
  · simp only [go_sem, Nat.reduceEqDiff, Nat.reduceAdd, Nat.reduceLeDiff]
  · simp only [go_sem, Nat.reduceEqDiff, Nat.reduceAdd, Nat.reduceLeDiff, hlt]
end

def dIdxF (es : Nat) (sz : Option Nat) : Def := (.code 2 [.tmp 4] (.seq (.rg false [⟨.some 4, .none, .mv (.c (.int .i64 0))⟩]) (.seq (.seq (.rg false [⟨.some 6, .none, .mv (.t 0)⟩, ⟨.some 7, .none, .lenL (.t 6)⟩, ⟨.some 8, .none, .mv (.c (.int .i64 0))⟩]) (.block 0 (.loop (.seq (.rg false [⟨.some 9, .none, .bin .lss (.t 8) (.t 7)⟩]) (.seq (.cond (.t 9) .skip (.exit 0)) (.seq (.block 1 (.seq (.rg false [⟨.some 10, .none, .mv (.t 8)⟩, ⟨.some 5, .none, .mv (.t 10)⟩]) (.seq (.rg false [⟨.some 11, .none, .mv (.t 1)⟩, ⟨.some 12, .none, .mv (.t 0)⟩, ⟨.some 13, .none, .mv (.t 5)⟩, ⟨.some 14, .none, .ia es (.t 12) (.t 13)⟩, ⟨.some 15, .none, .ld sz (.t 14)⟩, ⟨.some 16, .none, .callv (.t 11) .pure [.t 15]⟩]) (.cond (.t 16) (.seq (.rg false [⟨.some 17, .none, .mv (.t 5)⟩, ⟨.some 4, .none, .mv (.t 17)⟩]) .ret) .skip)))) (.rg false [⟨.some 18, .none, .bin .add (.t 8) (.c (.int .i64 1))⟩, ⟨.some 8, .none, .mv (.t 18)⟩]))))))) (.seq (.rg false [⟨.some 4, .none, .mv (.c (.int .i64 (-1)))⟩]) .ret))))
section
variable {env : Nat → Option Def} {fr : Fr} {σ σ' σ'' : St} {K : Fr → St → Prop} {Q : X → Fr → St → Prop} {p : PV} {bs : List UInt8}
def ldE (sz : Option Nat) (e : PV) : Option PV := match sz with
  | none => (cellsOf e)[0]?
  | some n => if 0 + n ≤ (cellsOf e).length then some (.agg (((cellsOf e).drop 0).take n)) else none
def Elems (es : Nat) (sz : Option Nat) (xs : List PV) : Prop := ∀ (i : Nat) e, xs[i]? = some e → (cellsOf e).length = es ∧ ldE sz e = some e
theorem e_ldE (E : Ev) (s : Nat) (fr : Fr) (σ : St) (sz : Option Nat) (a : PA) {xs : List PV} {i : Nat} {e : PV} (ha : pa fr a = .fp xs i 0) (he : xs[i]? = some e) (hl : ldE sz e = some e) : evO E s fr σ (.ld sz a) = some (e, σ) := by
  simp only [evO, ha, deref, he, Option.map_some, Option.bind_some]
  unfold ldE at hl
  cases sz with
  | none => simp only at hl ⊢; rw [hl]; rfl
  | some n =>
    simp only at hl ⊢
    split at hl
    · rename_i hn
      rw [if_pos hn]
      simp only [Option.some.injEq] at hl
      rw [hl]
    · cases hl
theorem idxF_g {k0 es : Nat} {sz : Option Nat} (hk0 : env k0 = some (dIdxF es sz)) {xs : List PV} {k : Nat} {a b : List PV} {q : Nat → Bool} (hn : xs.length ≤ 9223372036854775807) (hE : Elems es sz xs)
    (hz : ∀ (i : Nat) e, xs[i]? = some e → ∀ σ, (a ++ [e] ++ b).mapM (fz σ 12) = some (a ++ [e] ++ b)) (hp : ∀ (i : Nat) e, xs[i]? = some e → AV env k (a ++ [e] ++ b) = some (.sc (.bool (q i)))) :
    AV env k0 [.sl xs, .fn k a b] = some (.sc (.int .i64 (found q xs.length))) := by
  refine AV_wp hk0 rfl ?_
  (repeat' first
    | refine w_seq ?_ | refine w_rg ?_ | refine wo_nil ?_ | refine g_skU ?_ | refine g_skT ?_ | refine g_skF ?_
    | ((first | apply s_plain | apply s_void | apply s_guard | apply g_goT | apply g_goF); · simp only [go_sem, Nat.reduceEqDiff, Nat.reduceAdd, Nat.reduceLeDiff]; (first | done | rfl))
    | ((first | apply g_T | apply g_F | apply g_gT | apply g_gF); · intro q1_; (first | intro q2_ | have q2_ := q1_); simp only [go_sem, Nat.reduceEqDiff, Nat.reduceAdd, Nat.reduceLeDiff, q1_, q2_]; (first | done | rfl))
    | fail
    )
  refine w_block (w_rangeF xs.length hn (fun i fr σ => ∀ j, j < i → q j = false) ⟨by decide, rfl, rfl⟩ (fun _ _ _ _ h => ⟨h, h, h⟩) (fun j hj => by omega) (by simp only [go_sem, Nat.reduceEqDiff, Nat.reduceAdd, Nat.reduceLeDiff]; first | done | rfl) (by simp only [go_sem, Nat.reduceEqDiff, Nat.reduceAdd, Nat.reduceLeDiff]; first | done | rfl) ?_ ?_)
  · rintro i fr1 σ1 hi h3 hti hfr
    have f0_0 := hfr 0 rfl; have f0_1 := hfr 1 rfl; have f0_7 := hfr 7 rfl; try (simp only [go_sem, Nat.reduceEqDiff, Nat.reduceAdd, Nat.reduceLeDiff] at f0_0); try (simp only [go_sem, Nat.reduceEqDiff, Nat.reduceAdd, Nat.reduceLeDiff] at f0_1); try (simp only [go_sem, Nat.reduceEqDiff, Nat.reduceAdd, Nat.reduceLeDiff] at f0_7)
    have hx := List.getElem?_eq_getElem hi
    have e1 : (0 : Int) ≤ (i : Int) ∧ (i : Int) < (xs.length : Int) := by omega
    refine w_block ?_
    obtain ⟨hc, hl⟩ := hE i _ hx
    have hz' := hz i _ hx
    have hp' := hp i _ hx
    simp only [List.append_assoc, List.cons_append, List.nil_append] at hz' hp'
    (repeat' first
    | refine w_seq ?_ | refine w_rg ?_ | refine wo_nil ?_ | refine g_skU ?_ | refine g_skT ?_ | refine g_skF ?_
    | ((first | apply s_plain | apply s_void | apply s_guard | apply g_goT | apply g_goF); · simp only [go_sem, Nat.reduceEqDiff, Nat.reduceAdd, Nat.reduceLeDiff, f0_0, f0_1, f0_7, hti, e1, Int.toNat_natCast, hx, hc, List.append_assoc]; (first | done | rfl))
    | ((first | apply g_T | apply g_F | apply g_gT | apply g_gF); · intro q1_; (first | intro q2_ | have q2_ := q1_); simp only [go_sem, Nat.reduceEqDiff, Nat.reduceAdd, Nat.reduceLeDiff, f0_0, f0_1, f0_7, hti, e1, Int.toNat_natCast, hx, hc, List.append_assoc, q1_, q2_]; (first | done | rfl))
    | fail
    )
    refine s_plain (e_ldE _ _ _ _ _ _ (xs := xs) (i := i) (by simp only [go_sem, Nat.reduceEqDiff, Nat.reduceAdd, Nat.reduceLeDiff]) hx hl) ?_
    (repeat' first
    | refine w_seq ?_ | refine w_rg ?_ | refine wo_nil ?_ | refine g_skU ?_ | refine g_skT ?_ | refine g_skF ?_
    | ((first | apply s_plain | apply s_void | apply s_guard | apply g_goT | apply g_goF); · simp only [go_sem, Nat.reduceEqDiff, Nat.reduceAdd, Nat.reduceLeDiff, List.append_assoc, hz', hp']; (first | done | rfl))
    | ((first | apply g_T | apply g_F | apply g_gT | apply g_gF); · intro q1_; (first | intro q2_ | have q2_ := q1_); simp only [go_sem, Nat.reduceEqDiff, Nat.reduceAdd, Nat.reduceLeDiff, List.append_assoc, hz', hp', q1_, q2_]; (first | done | rfl))
    | fail
    )
    cases hpi : q i with
    | true =>
      (repeat' first
    | refine w_seq ?_ | refine w_rg ?_ | refine wo_nil ?_ | refine g_skU ?_ | refine g_skT ?_ | refine g_skF ?_
    | ((first | apply s_plain | apply s_void | apply s_guard | apply g_goT | apply g_goF); · simp only [go_sem, Nat.reduceEqDiff, Nat.reduceAdd, Nat.reduceLeDiff]; (first | done | rfl))
    | ((first | apply g_T | apply g_F | apply g_gT | apply g_gF); · intro q1_; (first | intro q2_ | have q2_ := q1_); simp only [go_sem, Nat.reduceEqDiff, Nat.reduceAdd, Nat.reduceLeDiff, q1_, q2_]; (first | done | rfl))
    | (apply w_condX; · simp only [go_sem, Nat.reduceEqDiff, Nat.reduceAdd, Nat.reduceLeDiff]; (first | done | rfl)); (first | refine wcd_T ?_ | refine wcd_F ?_)
    | refine w_skip ?_ | refine w_exit ?_ | refine w_ret ?_
    | fail
    )
      exact ⟨by first | exact .inr rfl | exact .inr trivial | exact .inl rfl, by simp only [go_sem, Nat.reduceEqDiff, Nat.reduceAdd, Nat.reduceLeDiff, retOf, resOf, found_hit hi h3 hpi]; first | done | rfl⟩
    | false =>
      (repeat' first
    | refine w_seq ?_ | refine w_rg ?_ | refine wo_nil ?_ | refine g_skU ?_ | refine g_skT ?_ | refine g_skF ?_
    | ((first | apply s_plain | apply s_void | apply s_guard | apply g_goT | apply g_goF); · simp only [go_sem, Nat.reduceEqDiff, Nat.reduceAdd, Nat.reduceLeDiff]; (first | done | rfl))
    | ((first | apply g_T | apply g_F | apply g_gT | apply g_gF); · intro q1_; (first | intro q2_ | have q2_ := q1_); simp only [go_sem, Nat.reduceEqDiff, Nat.reduceAdd, Nat.reduceLeDiff, q1_, q2_]; (first | done | rfl))
    | (apply w_condX; · simp only [go_sem, Nat.reduceEqDiff, Nat.reduceAdd, Nat.reduceLeDiff]; (first | done | rfl)); (first | refine wcd_T ?_ | refine wcd_F ?_)
    | refine w_skip ?_ | refine w_exit ?_ | refine w_ret ?_
    | fail
    )
      intro j hj
      by_cases hji : j = i
      · rw [hji]; exact hpi
      · exact h3 j (by omega)
  · rintro fr1 σ1 h3 hfr
    try simp only [if_true]
    (repeat' first
    | refine w_seq ?_ | refine w_rg ?_ | refine wo_nil ?_ | refine g_skU ?_ | refine g_skT ?_ | refine g_skF ?_
    | ((first | apply s_plain | apply s_void | apply s_guard | apply g_goT | apply g_goF); · simp only [go_sem, Nat.reduceEqDiff, Nat.reduceAdd, Nat.reduceLeDiff]; (first | done | rfl))
    | ((first | apply g_T | apply g_F | apply g_gT | apply g_gF); · intro q1_; (first | intro q2_ | have q2_ := q1_); simp only [go_sem, Nat.reduceEqDiff, Nat.reduceAdd, Nat.reduceLeDiff, q1_, q2_]; (first | done | rfl))
    | (apply w_condX; · simp only [go_sem, Nat.reduceEqDiff, Nat.reduceAdd, Nat.reduceLeDiff]; (first | done | rfl)); (first | refine wcd_T ?_ | refine wcd_F ?_)
    | refine w_skip ?_ | refine w_exit ?_ | refine w_ret ?_
    | fail
    )
    exact ⟨by first | exact .inr rfl | exact .inr trivial | exact .inl rfl, by simp only [go_sem, Nat.reduceEqDiff, Nat.reduceAdd, Nat.reduceLeDiff, retOf, resOf, found_none h3]; first | done | rfl⟩
end

def d207 : Def := (.code 2 [.tmp 3] (.seq (.rg false [⟨.some 2, .none, .box (.t 0)⟩, ⟨.some 3, .none, .mv (.c (.bool false))⟩]) (.seq (.rg true [⟨.some 4, .none, .fa 0 (.t 2)⟩, ⟨.some 5, .none, .ld .none (.t 4)⟩, ⟨.some 6, .none, .ld .none (.t 1)⟩, ⟨.some 7, .none, .ia 1 (.t 6) (.c (.int .i64 2))⟩, ⟨.some 8, .none, .ld .none (.t 7)⟩, ⟨.some 9, .none, .bin .eql (.t 5) (.t 8)⟩, ⟨.some 3, .none, .mv (.t 9)⟩]) .ret)))
def d195 : Def := (.code 1 [.cell 2 (.some 8), .tmp 3] (.seq (.rg false [⟨.some 1, .none, .box (.t 0)⟩, ⟨.some 2, .none, .box (.c (.agg #[.string ⟨#[]⟩, .string ⟨#[]⟩, .int .i64 0, .int .i64 0, .int .i64 0, .int .i64 0, .int .i64 0, .slice .none 0 0]))⟩, ⟨.some 3, .none, .mv (.c (.int .i64 0))⟩]) (.seq (.seq (.rg false [⟨.some 10, .none, .ld .none (.t 1)⟩, ⟨.some 11, .none, .lenL (.t 10)⟩, ⟨.some 12, .none, .bin .neq (.t 11) (.c (.int .i64 8))⟩]) (.cond (.t 12) (.seq (.rg false [⟨.some 13, .none, .build (.agg #[.string ⟨#[]⟩, .string ⟨#[]⟩, .int .i64 0, .int .i64 0, .int .i64 0, .int .i64 0, .int .i64 0, .slice .none 0 0]) []⟩, ⟨.none, .none, .st 8 (.t 2) (.t 13)⟩, ⟨.some 3, .none, .mv (.c (.int .i64 6))⟩]) .ret) .skip)) (.seq (.rg false [⟨.some 15, .none, .ld .none (.t 1)⟩, ⟨.some 16, .none, .ia 1 (.t 15) (.c (.int .i64 7))⟩, ⟨.some 17, .none, .ld .none (.t 16)⟩, ⟨.some 18, .none, .call 204 .pure [.t 17]⟩, ⟨.some 14, .none, .mv (.t 18)⟩, ⟨.some 19, .none, .ext (.t 14) 0⟩, ⟨.some 20, .none, .ext (.t 14) 1⟩, ⟨.some 4, .none, .mv (.t 19)⟩, ⟨.some 5, .none, .mv (.t 20)⟩]) (.seq (.rg true [⟨.some 21, .none, .ld .none (.t 1)⟩, ⟨.some 22, .none, .ia 1 (.t 21) (.c (.int .i64 0))⟩, ⟨.some 23, .none, .ld .none (.t 22)⟩, ⟨.some 24, .none, .ld .none (.t 1)⟩, ⟨.some 25, .none, .ia 1 (.t 24) (.c (.int .i64 1))⟩, ⟨.some 26, .none, .ld .none (.t 25)⟩, ⟨.some 27, .none, .ld .none (.t 1)⟩, ⟨.some 28, .none, .ia 1 (.t 27) (.c (.int .i64 3))⟩, ⟨.some 29, .none, .ld .none (.t 28)⟩, ⟨.some 30, .none, .call 205 .strict [.t 29]⟩, ⟨.some 31, .none, .ld .none (.t 1)⟩, ⟨.some 32, .none, .ia 1 (.t 31) (.c (.int .i64 4))⟩, ⟨.some 33, .none, .ld .none (.t 32)⟩, ⟨.some 34, .none, .call 205 .strict [.t 33]⟩, ⟨.some 35, .none, .ld .none (.t 1)⟩, ⟨.some 36, .none, .ia 1 (.t 35) (.c (.int .i64 5))⟩, ⟨.some 37, .none, .ld .none (.t 36)⟩, ⟨.some 38, .none, .call 205 .strict [.t 37]⟩, ⟨.some 39, .none, .ld .none (.t 1)⟩, ⟨.some 40, .none, .ia 1 (.t 39) (.c (.int .i64 6))⟩, ⟨.some 41, .none, .ld .none (.t 40)⟩, ⟨.some 42, .none, .call 205 .strict [.t 41]⟩, ⟨.some 43, .none, .mv (.t 4)⟩, ⟨.some 44, .none, .build (.agg #[.string ⟨#[]⟩, .string ⟨#[]⟩, .int .i64 0, .int .i64 0, .int .i64 0, .int .i64 0, .int .i64 0, .slice .none 0 0]) [(0, (1, .t 23)), (1, (1, .t 26)), (3, (1, .t 30)), (4, (1, .t 34)), (5, (1, .t 38)), (6, (1, .t 42)), (7, (1, .t 43))]⟩, ⟨.some 6, .none, .box (.c (.agg #[.string ⟨#[]⟩, .string ⟨#[]⟩, .int .i64 0, .int .i64 0, .int .i64 0, .int .i64 0, .int .i64 0, .slice .none 0 0]))⟩, ⟨.none, .none, .st 8 (.t 6) (.t 44)⟩]) (.seq (.rg false [⟨.some 45, .none, .call 115 .pure []⟩, ⟨.some 7, .none, .box (.c (.agg #[.string ⟨#[]⟩, .nilFunc, .string ⟨#[]⟩, .nilFunc, .string ⟨#[]⟩, .nilFunc, .string ⟨#[]⟩, .nilFunc, .string ⟨#[]⟩, .nilFunc, .string ⟨#[]⟩, .nilFunc]))⟩, ⟨.none, .none, .st 12 (.t 7) (.t 45)⟩]) (.seq (.rg false [⟨.some 46, .none, .slcA 2 6 (.t 7)⟩, ⟨.some 47, .none, .mkf 207 [] [.t 1]⟩, ⟨.some 48, .none, .call 206 .pure [.t 46, .t 47]⟩, ⟨.some 49, .none, .fa 2 (.t 6)⟩, ⟨.none, .none, .st 1 (.t 49) (.t 48)⟩]) (.seq (.seq (.rg false [⟨.some 51, .none, .ld (.some 8) (.t 6)⟩, ⟨.some 52, .none, .call 193 .pure [.t 51]⟩, ⟨.some 50, .none, .mv (.t 52)⟩, ⟨.some 53, .none, .ext (.t 50) 0⟩, ⟨.some 54, .none, .ext (.t 50) 1⟩, ⟨.some 8, .none, .mv (.t 53)⟩, ⟨.some 9, .none, .mv (.t 54)⟩]) (.seq (.rg false [⟨.some 55, .none, .mv (.t 9)⟩, ⟨.some 56, .none, .bin .neq (.t 55) (.c (.int .i64 0))⟩, ⟨.some 57, .none, .mv (.t 56)⟩, ⟨.some 58, .some (57, false), .mv (.t 8)⟩, ⟨.some 59, .some (57, false), .ld .none (.t 1)⟩, ⟨.some 60, .some (57, false), .call 35 .pure [.t 58, .t 59]⟩, ⟨.some 61, .some (57, false), .un .not (.t 60)⟩, ⟨.some 62, .none, .pick (.t 57) (.c (.bool true)) (.t 61)⟩]) (.cond (.t 62) (.seq (.rg false [⟨.some 63, .none, .build (.agg #[.string ⟨#[]⟩, .string ⟨#[]⟩, .int .i64 0, .int .i64 0, .int .i64 0, .int .i64 0, .int .i64 0, .slice .none 0 0]) []⟩, ⟨.none, .none, .st 8 (.t 2) (.t 63)⟩, ⟨.some 3, .none, .mv (.c (.int .i64 6))⟩]) .ret) .skip))) (.seq (.rg false [⟨.some 64, .none, .ld (.some 8) (.t 6)⟩, ⟨.none, .none, .st 8 (.t 2) (.t 64)⟩, ⟨.some 3, .none, .mv (.c (.int .i64 0))⟩]) .ret)))))))))
def lhg : List (Nat × Def) := [(207, d207), (206, dIdxF 2 (some 2)), (195, d195)]
section
variable {env : Nat → Option Def} {fr : Fr} {σ σ' σ'' : St} {K : Fr → St → Prop} {Q : X → Fr → St → Prop} {p : PV} {bs : List UInt8}
def sgnL : List ByteArray := [⟨#[]⟩, ⟨#[62]⟩, ⟨#[62, 61]⟩, ⟨#[60]⟩, ⟨#[60, 61]⟩, ⟨#[61, 61]⟩]
def waysE : List PV := [.agg [.sc (.string ⟨#[]⟩), .sc .nilFunc], .agg [.sc (.string ⟨#[62]⟩), .fn 123 [] []], .agg [.sc (.string ⟨#[62, 61]⟩), .fn 124 [] []], .agg [.sc (.string ⟨#[60]⟩), .fn 125 [] []], .agg [.sc (.string ⟨#[60, 61]⟩), .fn 126 [] []], .agg [.sc (.string ⟨#[61, 61]⟩), .fn 127 [] []]]
theorem ways_chunks : chunks 2 6 waysL = waysE := rfl
theorem ways_get {i : Nat} {e : PV} (h : waysE[i]? = some e) : ∃ f, e = .agg [.sc (.string (sgnL.getD i ⟨#[]⟩)), f] ∧ ∀ d σ, fz σ (d + 1) f = some f := by
  have hi : i < 6 := (List.getElem?_eq_some_iff.1 h).1
  obtain rfl | rfl | rfl | rfl | rfl | rfl : i = 0 ∨ i = 1 ∨ i = 2 ∨ i = 3 ∨ i = 4 ∨ i = 5 := by omega
  all_goals
    simp only [waysE, List.getElem?_cons_zero, List.getElem?_cons_succ, Option.some.injEq] at h
    subst h
    exact ⟨_, rfl, fun d σ => rfl⟩
def sgnQ (s : ByteArray) (i : Nat) : Bool := decide (sgnL.getD i ⟨#[]⟩ = s)
theorem found_how (s : ByteArray) : found (sgnQ s) 6 = howP s := by
  unfold found
  rw [show List.range 6 = [0, 1, 2, 3, 4, 5] from rfl]
  simp only [List.find?, sgnQ, sgnL, List.getD_cons_zero, List.getD_cons_succ]
  unfold howP
  by_cases h0 : s = ⟨#[]⟩
  · subst h0; rfl
  by_cases h1 : s = ⟨#[62]⟩
  · subst h1; rfl
  by_cases h2 : s = ⟨#[62, 61]⟩
  · subst h2; rfl
  by_cases h3 : s = ⟨#[60]⟩
  · subst h3; rfl
  by_cases h4 : s = ⟨#[60, 61]⟩
  · subst h4; rfl
  by_cases h5 : s = ⟨#[61, 61]⟩
  · subst h5; rfl
  simp only [h0, h1, h2, h3, h4, h5, Ne.symm h0, Ne.symm h1, Ne.symm h2, Ne.symm h3, Ne.symm h4, Ne.symm h5, decide_false, if_false]
theorem a207 (E : Has lhg env) {s : ByteArray} {f : PV} {l : List ByteArray} {w : ByteArray} (h : l[2]? = some w) : AV env 207 [.agg [.sc (.string s), f], .fp [.sl (strs l)] 0 0] = some (.sc (.bool (decide (s = w)))) := by
  have h2 := strs_at h
  have hl : 2 < l.length := (List.getElem?_eq_some_iff.1 h).1
  have hll := strs_len l
  have e1 : (0 : Int) ≤ 2 ∧ (2 : Int) < (l.length : Int) := by omega
  refine AV_wp (E (207, d207) (by simp [lhg])) rfl ?_
  (repeat' first
    | refine w_seq ?_ | refine w_rg ?_ | refine wo_nil ?_ | refine g_skU ?_ | refine g_skT ?_ | refine g_skF ?_
    | ((first | apply s_plain | apply s_void | apply s_guard | apply g_goT | apply g_goF); · simp only [go_sem, Nat.reduceEqDiff, Nat.reduceAdd, Nat.reduceLeDiff, h2, hll, e1, Int.toNat_natCast, ba_beq, show (2 : Int).toNat = 2 from rfl]; (first | done | rfl))
    | ((first | apply g_T | apply g_F | apply g_gT | apply g_gF); · intro q1_; (first | intro q2_ | have q2_ := q1_); simp only [go_sem, Nat.reduceEqDiff, Nat.reduceAdd, Nat.reduceLeDiff, h2, hll, e1, Int.toNat_natCast, ba_beq, show (2 : Int).toNat = 2 from rfl, q1_, q2_]; (first | done | rfl))
    | (apply w_condX; · simp only [go_sem, Nat.reduceEqDiff, Nat.reduceAdd, Nat.reduceLeDiff, h2, hll, e1, Int.toNat_natCast, ba_beq, show (2 : Int).toNat = 2 from rfl]; (first | done | rfl)); (first | refine wcd_T ?_ | refine wcd_F ?_)
    | refine w_skip ?_ | refine w_exit ?_ | refine w_ret ?_
    | fail
    )
  exact ⟨by first | exact .inr rfl | exact .inr trivial | exact .inl rfl, by simp only [go_sem, Nat.reduceEqDiff, Nat.reduceAdd, Nat.reduceLeDiff, retOf, resOf]; first | done | rfl⟩
theorem a206 (E : Has lhg env) {l : List ByteArray} {w : ByteArray} (h : l[2]? = some w) : AV env 206 [.sl waysE, .fn 207 [] [.fp [.sl (strs l)] 0 0]] = some (.sc (.int .i64 (howP w))) := by
  rw [← found_how w, show (6 : Nat) = waysE.length from rfl]
  refine idxF_g (E (206, dIdxF 2 (some 2)) (by simp [lhg])) (by decide) (fun i e he => ?_) (fun i e he σ => ?_) (fun i e he => ?_)
  · obtain ⟨f, rfl, _⟩ := ways_get he
    exact ⟨rfl, rfl⟩
  · obtain ⟨f, rfl, hf⟩ := ways_get he
    simp only [go_sem, Nat.reduceEqDiff, Nat.reduceAdd, Nat.reduceLeDiff, List.nil_append, List.cons_append, hf]
  · obtain ⟨f, rfl, _⟩ := ways_get he
    exact a207 E h
theorem parseS_held (s : List UInt8) : (parseS s).1.length ≤ 8 ∧ ∀ m ∈ (parseS s).1, m.1.size ≤ 64 ∧ m.2.size ≤ 64 := by
  by_cases h : (parseS s).2 = 0
  · obtain ⟨hr, _⟩ := parse_ok (s := s) (l := (parseS s).1) (by rw [← h])
    exact ⟨right_len hr, fun m hm => may_size ((right_iff.1 hr).1 m hm)⟩
  · rw [parse_bad h]
    exact ⟨by simp, fun m hm => by simp at hm⟩
theorem ways_len : waysL.length = 12 := rfl
theorem ways_okc : okc (.agg waysL) = true := rfl
theorem ways_cl : clL waysL = true := rfl
theorem ways_cells : cellsOf (.agg waysL) = waysL := rfl
theorem ways_fz (σ : St) : waysE.mapM (fz σ 11) = some waysE := rfl
theorem wos_cut {ops : List POp} {K : Fr → St → Prop} (J : Fr → St → Prop) (h : J fr σ) (k : ∀ fr σ, J fr σ → Wos env ops K fr σ) : Wos env ops K fr σ := k fr σ h
theorem small_of {s : ByteArray} {n : Nat} (h : s.size ≤ n) (hn : n ≤ 9223372036854775807) : Small s := by unfold Small; omega
theorem a195 (H : Has la env) (G : Has lc env) (F : Has lf env) (I : Has lg env) (P : Has lp env) (U : Has lu env) (A : Has lha env) (W : Has lhb env) (C : Has lhc env) (D5 : Has lhe env) (E : Has lhg env)
    (h204 : ∀ s : List UInt8, s.length ≤ 4000000000 → AV env 204 [txt s] = some (.tu [.sl (labs (parseS s).1), .sc (.int .i64 (parseS s).2)]))
    {l : List ByteArray} (hn : l.length ≤ 1000) (hs : ∀ s ∈ l, s.size ≤ 9000000000000000000) (h7 : ∀ q, l[7]? = some q → q.size ≤ 4000000000) : AV env 195 [.sl (strs l)] = some (.tu [rule (readP l).1, .sc (.int .i64 (readP l).2)]) := by
  have hll := strs_len l
  refine AV_wp (E (195, d195) (by simp [lhg])) rfl ?_
  by_cases h8 : l.length = 8
  · obtain ⟨q0, q1, q2, q3, q4, q5, q6, q7, rfl⟩ : ∃ q0 q1 q2 q3 q4 q5 q6 q7, l = [q0, q1, q2, q3, q4, q5, q6, q7] := ⟨_, _, _, _, _, _, _, _, list8 h8⟩
    have hz : ∀ q ∈ [q0, q1, q2, q3, q4, q5, q6, q7], q.data.toList.length ≤ 9000000000000000000 := fun q hq => hs q hq
    have g3 := a205 C (s := q3.data.toList) (by have := hz q3 (by simp); omega)
    have g4 := a205 C (s := q4.data.toList) (by have := hz q4 (by simp); omega)
    have g5 := a205 C (s := q5.data.toList) (by have := hz q5 (by simp); omega)
    have g6 := a205 C (s := q6.data.toList) (by have := hz q6 (by simp); omega)
    have g7 := h204 q7.data.toList (h7 q7 rfl)
    rw [txt_eta] at g3 g4 g5 g6 g7
    obtain ⟨hp8, hps⟩ := parseS_held q7.data.toList
    have hread : readP [q0, q1, q2, q3, q4, q5, q6, q7] = if rightR (ruleP [q0, q1, q2, q3, q4, q5, q6, q7]) = true ∧ wordsR (ruleP [q0, q1, q2, q3, q4, q5, q6, q7]) = [q0, q1, q2, q3, q4, q5, q6, q7] then (ruleP [q0, q1, q2, q3, q4, q5, q6, q7], 0) else (emptyR, 6) := by
      unfold readP
      simp only [h8, true_and]
    have hfit : (ruleP [q0, q1, q2, q3, q4, q5, q6, q7]).Fits := ⟨small_of (hs q0 (by simp)) (by decide), small_of (hs q1 (by simp)) (by decide), (by show (parseS q7.data.toList).1.length ≤ _; omega), fun m hm => ⟨small_of (hps m hm).1 (by decide), small_of (hps m hm).2 (by decide)⟩⟩
    have g206 := a206 E (l := [q0, q1, q2, q3, q4, q5, q6, q7]) (w := q2) rfl
    have g193 : AV env 193 [.agg [.sc (.string q0), .sc (.string q1), .sc (.int .i64 (howP q2)), .sc (.int .i64 (numP q3.data.toList)), .sc (.int .i64 (numP q4.data.toList)), .sc (.int .i64 (numP q5.data.toList)), .sc (.int .i64 (numP q6.data.toList)), .sl (labs (parseS q7.data.toList).1)]] = _ := a193 H G F I P U A W hfit
    have g35 := a35 D5 (a := wordsR (ruleP [q0, q1, q2, q3, q4, q5, q6, q7])) (b := [q0, q1, q2, q3, q4, q5, q6, q7]) (by simp [wordsR])
    have h115 := a115 I
    have hrule : rule (ruleP [q0, q1, q2, q3, q4, q5, q6, q7]) = .agg [.sc (.string q0), .sc (.string q1), .sc (.int .i64 (howP q2)), .sc (.int .i64 (numP q3.data.toList)), .sc (.int .i64 (numP q4.data.toList)), .sc (.int .i64 (numP q5.data.toList)), .sc (.int .i64 (numP q6.data.toList)), .sl (labs (parseS q7.data.toList).1)] := rfl
    rw [hread]
    generalize ruleP [q0, q1, q2, q3, q4, q5, q6, q7] = R at *
    generalize wordsR R = wr at *
    generalize numP q3.data.toList = n3 at *
    generalize numP q4.data.toList = n4 at *
    generalize numP q5.data.toList = n5 at *
    generalize numP q6.data.toList = n6 at *
    generalize howP q2 = n2 at *
    generalize labs (parseS q7.data.toList).1 = ls at *
    generalize (parseS q7.data.toList).2 = pe at *
    simp only [strs, List.map_cons, List.map_nil] at g206 ⊢
    rw [show strs [q0, q1, q2, q3, q4, q5, q6, q7] = [.sc (.string q0), .sc (.string q1), .sc (.string q2), .sc (.string q3), .sc (.string q4), .sc (.string q5), .sc (.string q6), .sc (.string q7)] from rfl] at g35
    (repeat' first
    | refine w_seq ?_ | refine w_rg ?_ | refine wo_nil ?_ | refine g_skU ?_ | refine g_skT ?_ | refine g_skF ?_
    | ((first | apply s_plain | apply s_void | apply s_guard | apply g_goT | apply g_goF); · simp only [go_sem, Nat.reduceEqDiff, Nat.reduceAdd, Nat.reduceLeDiff, bne_self_eq_false]; (first | done | rfl))
    | ((first | apply g_T | apply g_F | apply g_gT | apply g_gF); · intro q1_; (first | intro q2_ | have q2_ := q1_); simp only [go_sem, Nat.reduceEqDiff, Nat.reduceAdd, Nat.reduceLeDiff, bne_self_eq_false, q1_, q2_]; (first | done | rfl))
    | (apply w_condX; · simp only [go_sem, Nat.reduceEqDiff, Nat.reduceAdd, Nat.reduceLeDiff, bne_self_eq_false]; (first | done | rfl)); (first | refine wcd_T ?_ | refine wcd_F ?_)
    | refine w_skip ?_ | refine w_exit ?_ | refine w_ret ?_
    | fail
    )
    (repeat' first
    | refine w_seq ?_ | refine w_rg ?_ | refine wo_nil ?_ | refine g_skU ?_ | refine g_skT ?_ | refine g_skF ?_
    | ((first | apply s_plain | apply s_void | apply s_guard | apply g_goT | apply g_goF); · simp only [go_sem, Nat.reduceEqDiff, Nat.reduceAdd, Nat.reduceLeDiff, g7]; (first | done | rfl))
    | ((first | apply g_T | apply g_F | apply g_gT | apply g_gF); · intro q1_; (first | intro q2_ | have q2_ := q1_); simp only [go_sem, Nat.reduceEqDiff, Nat.reduceAdd, Nat.reduceLeDiff, g7, q1_, q2_]; (first | done | rfl))
    | fail
    )
    refine wos_cut (fun fr σ => fr 1 = .bx 2000001 0 1 0 0 ∧ fr 2 = .bx 2000002 0 8 0 0 ∧ fr 4 = .sl ls ∧ fr 23 = .sc (.string q0) ∧ fr 26 = .sc (.string q1) ∧ fr 29 = .sc (.string q3) ∧ σ.m 2000001 0 = some ⟨1, [.sl [.sc (.string q0), .sc (.string q1), .sc (.string q2), .sc (.string q3), .sc (.string q4), .sc (.string q5), .sc (.string q6), .sc (.string q7)]], true, true⟩ ∧ σ.m 2000002 0 = some ⟨8, [.agg [.sc (.string ⟨#[]⟩), .sc (.string ⟨#[]⟩), .sc (.int .i64 0), .sc (.int .i64 0), .sc (.int .i64 0), .sc (.int .i64 0), .sc (.int .i64 0), .em]], true, true⟩ ∧ σ.c 2000006 = 0 ∧ σ.c 2000007 = 0) ?_ ?_
    · refine ⟨?_, ?_, ?_, ?_, ?_, ?_, ?_, ?_, ?_, ?_⟩ <;> simp only [go_sem, Nat.reduceEqDiff, Nat.reduceAdd, Nat.reduceLeDiff]
    rintro fr σ ⟨f1, f2, f4, f23, f26, f29, m1, m2, c6, c7⟩
    (repeat' first
    | refine w_seq ?_ | refine w_rg ?_ | refine wo_nil ?_ | refine g_skU ?_ | refine g_skT ?_ | refine g_skF ?_
    | ((first | apply s_plain | apply s_void | apply s_guard | apply g_goT | apply g_goF); · simp only [go_sem, Nat.reduceEqDiff, Nat.reduceAdd, Nat.reduceLeDiff, f1, m1, f29, g3, g4, g5, g6, List.getElem?_cons_zero, List.getElem?_cons_succ]; (first | done | rfl))
    | ((first | apply g_T | apply g_F | apply g_gT | apply g_gF); · intro q1_; (first | intro q2_ | have q2_ := q1_); simp only [go_sem, Nat.reduceEqDiff, Nat.reduceAdd, Nat.reduceLeDiff, f1, m1, f29, g3, g4, g5, g6, List.getElem?_cons_zero, List.getElem?_cons_succ, q1_, q2_]; (first | done | rfl))
    | fail
    )
    (repeat' first
    | refine w_seq ?_ | refine w_rg ?_ | refine wo_nil ?_ | refine g_skU ?_ | refine g_skT ?_ | refine g_skF ?_
    | ((first | apply s_plain | apply s_void | apply s_guard | apply g_goT | apply g_goF); · simp only [go_sem, Nat.reduceEqDiff, Nat.reduceAdd, Nat.reduceLeDiff, f4, f23, f26, c6, fillP, splice, List.take_succ_cons, List.drop_succ_cons, List.modify_zero_cons, List.modify_cons]; (first | done | rfl))
    | ((first | apply g_T | apply g_F | apply g_gT | apply g_gF); · intro q1_; (first | intro q2_ | have q2_ := q1_); simp only [go_sem, Nat.reduceEqDiff, Nat.reduceAdd, Nat.reduceLeDiff, f4, f23, f26, c6, fillP, splice, List.take_succ_cons, List.drop_succ_cons, List.modify_zero_cons, List.modify_cons, q1_, q2_]; (first | done | rfl))
    | fail
    )
    refine wos_cut (fun fr σ => fr 1 = .bx 2000001 0 1 0 0 ∧ fr 2 = .bx 2000002 0 8 0 0 ∧ fr 6 = .bx 2000006 0 8 0 0 ∧ σ.m 2000001 0 = some ⟨1, [.sl [.sc (.string q0), .sc (.string q1), .sc (.string q2), .sc (.string q3), .sc (.string q4), .sc (.string q5), .sc (.string q6), .sc (.string q7)]], true, true⟩ ∧ σ.m 2000002 0 = some ⟨8, [.agg [.sc (.string ⟨#[]⟩), .sc (.string ⟨#[]⟩), .sc (.int .i64 0), .sc (.int .i64 0), .sc (.int .i64 0), .sc (.int .i64 0), .sc (.int .i64 0), .em]], true, true⟩ ∧ σ.m 2000006 0 = some ⟨8, [.agg [.sc (.string q0), .sc (.string q1), .sc (.int .i64 0), .sc (.int .i64 n3), .sc (.int .i64 n4), .sc (.int .i64 n5), .sc (.int .i64 n6), .sl ls]], true, true⟩ ∧ σ.c 2000007 = 0) ?_ ?_
    · refine ⟨?_, ?_, ?_, ?_, ?_, ?_, ?_⟩ <;> simp only [go_sem, Nat.reduceEqDiff, Nat.reduceAdd, Nat.reduceLeDiff, f1, f2, f4, f23, f26, m1, m2, c6, c7, List.modify_zero_cons, List.take_succ_cons, List.drop_succ_cons]
    clear f1 f2 f4 f23 f26 f29 m1 m2 c6 c7
    rintro fr σ ⟨f1, f2, f6, m1, m2, m6, c7⟩
    (repeat' first
    | refine w_seq ?_ | refine w_rg ?_ | refine wo_nil ?_ | refine g_skU ?_ | refine g_skT ?_ | refine g_skF ?_
    | ((first | apply s_plain | apply s_void | apply s_guard | apply g_goT | apply g_goF); · simp only [go_sem, Nat.reduceEqDiff, Nat.reduceAdd, Nat.reduceLeDiff, h115, c7, ways_len, ways_okc, ways_cl, ways_cells, ways_chunks]; (first | done | rfl))
    | ((first | apply g_T | apply g_F | apply g_gT | apply g_gF); · intro q1_; (first | intro q2_ | have q2_ := q1_); simp only [go_sem, Nat.reduceEqDiff, Nat.reduceAdd, Nat.reduceLeDiff, h115, c7, ways_len, ways_okc, ways_cl, ways_cells, ways_chunks, q1_, q2_]; (first | done | rfl))
    | fail
    )
    refine wos_cut (fun fr σ => fr 1 = .bx 2000001 0 1 0 0 ∧ fr 2 = .bx 2000002 0 8 0 0 ∧ fr 6 = .bx 2000006 0 8 0 0 ∧ fr 46 = .sl waysE ∧ fr 47 = .fn 207 [] [.bx 2000001 0 1 0 0] ∧ σ.m 2000001 0 = some ⟨1, [.sl [.sc (.string q0), .sc (.string q1), .sc (.string q2), .sc (.string q3), .sc (.string q4), .sc (.string q5), .sc (.string q6), .sc (.string q7)]], true, true⟩ ∧ σ.m 2000002 0 = some ⟨8, [.agg [.sc (.string ⟨#[]⟩), .sc (.string ⟨#[]⟩), .sc (.int .i64 0), .sc (.int .i64 0), .sc (.int .i64 0), .sc (.int .i64 0), .sc (.int .i64 0), .em]], true, true⟩ ∧ σ.m 2000006 0 = some ⟨8, [.agg [.sc (.string q0), .sc (.string q1), .sc (.int .i64 0), .sc (.int .i64 n3), .sc (.int .i64 n4), .sc (.int .i64 n5), .sc (.int .i64 n6), .sl ls]], true, true⟩) ?_ ?_
    · refine ⟨?_, ?_, ?_, ?_, ?_, ?_, ?_, ?_⟩ <;> simp only [go_sem, Nat.reduceEqDiff, Nat.reduceAdd, Nat.reduceLeDiff, f1, f2, f6, m1, m2, m6, ways_chunks]
    clear f1 f2 f6 m1 m2 m6 c7
    rintro fr σ ⟨f1, f2, f6, f46, f47, m1, m2, m6⟩
    have hwz := ways_fz σ
    (repeat' first
    | refine w_seq ?_ | refine w_rg ?_ | refine wo_nil ?_ | refine g_skU ?_ | refine g_skT ?_ | refine g_skF ?_
    | ((first | apply s_plain | apply s_void | apply s_guard | apply g_goT | apply g_goF); · simp only [go_sem, Nat.reduceEqDiff, Nat.reduceAdd, Nat.reduceLeDiff, f46, f47, hwz, m1, g206, f6, m6, splice, List.take_succ_cons, List.drop_succ_cons, List.modify_zero_cons, List.modify_cons]; (first | done | rfl))
    | ((first | apply g_T | apply g_F | apply g_gT | apply g_gF); · intro q1_; (first | intro q2_ | have q2_ := q1_); simp only [go_sem, Nat.reduceEqDiff, Nat.reduceAdd, Nat.reduceLeDiff, f46, f47, hwz, m1, g206, f6, m6, splice, List.take_succ_cons, List.drop_succ_cons, List.modify_zero_cons, List.modify_cons, q1_, q2_]; (first | done | rfl))
    | fail
    )
    refine wos_cut (fun fr σ => fr 1 = .bx 2000001 0 1 0 0 ∧ fr 2 = .bx 2000002 0 8 0 0 ∧ fr 6 = .bx 2000006 0 8 0 0 ∧ fr 51 = .agg [.sc (.string q0), .sc (.string q1), .sc (.int .i64 n2), .sc (.int .i64 n3), .sc (.int .i64 n4), .sc (.int .i64 n5), .sc (.int .i64 n6), .sl ls] ∧ σ.m 2000001 0 = some ⟨1, [.sl [.sc (.string q0), .sc (.string q1), .sc (.string q2), .sc (.string q3), .sc (.string q4), .sc (.string q5), .sc (.string q6), .sc (.string q7)]], true, true⟩ ∧ σ.m 2000002 0 = some ⟨8, [.agg [.sc (.string ⟨#[]⟩), .sc (.string ⟨#[]⟩), .sc (.int .i64 0), .sc (.int .i64 0), .sc (.int .i64 0), .sc (.int .i64 0), .sc (.int .i64 0), .em]], true, true⟩ ∧ σ.m 2000006 0 = some ⟨8, [.agg [.sc (.string q0), .sc (.string q1), .sc (.int .i64 n2), .sc (.int .i64 n3), .sc (.int .i64 n4), .sc (.int .i64 n5), .sc (.int .i64 n6), .sl ls]], true, true⟩) ?_ ?_
    · refine ⟨?_, ?_, ?_, ?_, ?_, ?_, ?_⟩ <;> simp only [go_sem, Nat.reduceEqDiff, Nat.reduceAdd, Nat.reduceLeDiff, f1, f2, f6, m1, m2, m6, splice, List.take_succ_cons, List.drop_succ_cons, List.modify_zero_cons, List.modify_cons]
    clear f1 f2 f6 f46 f47 m1 m2 m6
    rintro fr σ ⟨f1, f2, f6, f51, m1, m2, m6⟩
    cases hr : rightR R with
    | false =>
      rw [hr] at g193
      simp only [if_false, Bool.false_eq_true] at g193
      rw [if_neg (fun h => by cases h.1)]
      (repeat' first
    | refine w_seq ?_ | refine w_rg ?_ | refine wo_nil ?_ | refine g_skU ?_ | refine g_skT ?_ | refine g_skF ?_
    | ((first | apply s_plain | apply s_void | apply s_guard | apply g_goT | apply g_goF); · simp only [go_sem, Nat.reduceEqDiff, Nat.reduceAdd, Nat.reduceLeDiff, f51, g193]; (first | done | rfl))
    | ((first | apply g_T | apply g_F | apply g_gT | apply g_gF); · intro q1_; (first | intro q2_ | have q2_ := q1_); simp only [go_sem, Nat.reduceEqDiff, Nat.reduceAdd, Nat.reduceLeDiff, f51, g193, q1_, q2_]; (first | done | rfl))
    | fail
    )
      (repeat' first
    | refine w_seq ?_ | refine w_rg ?_ | refine wo_nil ?_ | refine g_skU ?_ | refine g_skT ?_ | refine g_skF ?_
    | ((first | apply s_plain | apply s_void | apply s_guard | apply g_goT | apply g_goF); · simp only [go_sem, Nat.reduceEqDiff, Nat.reduceAdd, Nat.reduceLeDiff, show ((1 : Int) != 0) = true from rfl]; (first | done | rfl))
    | ((first | apply g_T | apply g_F | apply g_gT | apply g_gF); · intro q1_; (first | intro q2_ | have q2_ := q1_); simp only [go_sem, Nat.reduceEqDiff, Nat.reduceAdd, Nat.reduceLeDiff, show ((1 : Int) != 0) = true from rfl, q1_, q2_]; (first | done | rfl))
    | (apply w_condX; · simp only [go_sem, Nat.reduceEqDiff, Nat.reduceAdd, Nat.reduceLeDiff, show ((1 : Int) != 0) = true from rfl]; (first | done | rfl)); (first | refine wcd_T ?_ | refine wcd_F ?_)
    | refine w_skip ?_ | refine w_exit ?_ | refine w_ret ?_
    | fail
    )
      (repeat' first
    | refine w_seq ?_ | refine w_rg ?_ | refine wo_nil ?_ | refine g_skU ?_ | refine g_skT ?_ | refine g_skF ?_
    | ((first | apply s_plain | apply s_void | apply s_guard | apply g_goT | apply g_goF); · simp only [go_sem, Nat.reduceEqDiff, Nat.reduceAdd, Nat.reduceLeDiff, f2, m2]; (first | done | rfl))
    | ((first | apply g_T | apply g_F | apply g_gT | apply g_gF); · intro q1_; (first | intro q2_ | have q2_ := q1_); simp only [go_sem, Nat.reduceEqDiff, Nat.reduceAdd, Nat.reduceLeDiff, f2, m2, q1_, q2_]; (first | done | rfl))
    | (apply w_condX; · simp only [go_sem, Nat.reduceEqDiff, Nat.reduceAdd, Nat.reduceLeDiff, f2, m2]; (first | done | rfl)); (first | refine wcd_T ?_ | refine wcd_F ?_)
    | refine w_skip ?_ | refine w_exit ?_ | refine w_ret ?_
    | fail
    )
      refine ⟨.inr rfl, ?_⟩
      simp only [go_sem, Nat.reduceEqDiff, Nat.reduceAdd, Nat.reduceLeDiff, retOf, resOf, f2, splice, List.take_succ_cons, List.drop_succ_cons, List.modify_zero_cons, List.modify_cons]
      rfl
    | true =>
      rw [hr] at g193
      simp only [if_true, true_and] at g193 ⊢
      (repeat' first
    | refine w_seq ?_ | refine w_rg ?_ | refine wo_nil ?_ | refine g_skU ?_ | refine g_skT ?_ | refine g_skF ?_
    | ((first | apply s_plain | apply s_void | apply s_guard | apply g_goT | apply g_goF); · simp only [go_sem, Nat.reduceEqDiff, Nat.reduceAdd, Nat.reduceLeDiff, f51, g193, bne_self_eq_false]; (first | done | rfl))
    | ((first | apply g_T | apply g_F | apply g_gT | apply g_gF); · intro q1_; (first | intro q2_ | have q2_ := q1_); simp only [go_sem, Nat.reduceEqDiff, Nat.reduceAdd, Nat.reduceLeDiff, f51, g193, bne_self_eq_false, q1_, q2_]; (first | done | rfl))
    | fail
    )
      (repeat' first
    | refine w_seq ?_ | refine w_rg ?_ | refine wo_nil ?_ | refine g_skU ?_ | refine g_skT ?_ | refine g_skF ?_
    | ((first | apply s_plain | apply s_void | apply s_guard | apply g_goT | apply g_goF); · simp only [go_sem, Nat.reduceEqDiff, Nat.reduceAdd, Nat.reduceLeDiff, f1, m1, g35, bne_self_eq_false]; (first | done | rfl))
    | ((first | apply g_T | apply g_F | apply g_gT | apply g_gF); · intro q1_; (first | intro q2_ | have q2_ := q1_); simp only [go_sem, Nat.reduceEqDiff, Nat.reduceAdd, Nat.reduceLeDiff, f1, m1, g35, bne_self_eq_false, q1_, q2_]; (first | done | rfl))
    | fail
    )
      cases hw : decide (wr = [q0, q1, q2, q3, q4, q5, q6, q7]) with
      | true =>
        rw [if_pos (of_decide_eq_true hw)]
        (repeat' first
    | refine w_seq ?_ | refine w_rg ?_ | refine wo_nil ?_ | refine g_skU ?_ | refine g_skT ?_ | refine g_skF ?_
    | ((first | apply s_plain | apply s_void | apply s_guard | apply g_goT | apply g_goF); · simp only [go_sem, Nat.reduceEqDiff, Nat.reduceAdd, Nat.reduceLeDiff]; (first | done | rfl))
    | ((first | apply g_T | apply g_F | apply g_gT | apply g_gF); · intro q1_; (first | intro q2_ | have q2_ := q1_); simp only [go_sem, Nat.reduceEqDiff, Nat.reduceAdd, Nat.reduceLeDiff, q1_, q2_]; (first | done | rfl))
    | (apply w_condX; · simp only [go_sem, Nat.reduceEqDiff, Nat.reduceAdd, Nat.reduceLeDiff]; (first | done | rfl)); (first | refine wcd_T ?_ | refine wcd_F ?_)
    | refine w_skip ?_ | refine w_exit ?_ | refine w_ret ?_
    | fail
    )
        (repeat' first
    | refine w_seq ?_ | refine w_rg ?_ | refine wo_nil ?_ | refine g_skU ?_ | refine g_skT ?_ | refine g_skF ?_
    | ((first | apply s_plain | apply s_void | apply s_guard | apply g_goT | apply g_goF); · simp only [go_sem, Nat.reduceEqDiff, Nat.reduceAdd, Nat.reduceLeDiff, f6, m6, f2, m2]; (first | done | rfl))
    | ((first | apply g_T | apply g_F | apply g_gT | apply g_gF); · intro q1_; (first | intro q2_ | have q2_ := q1_); simp only [go_sem, Nat.reduceEqDiff, Nat.reduceAdd, Nat.reduceLeDiff, f6, m6, f2, m2, q1_, q2_]; (first | done | rfl))
    | (apply w_condX; · simp only [go_sem, Nat.reduceEqDiff, Nat.reduceAdd, Nat.reduceLeDiff, f6, m6, f2, m2]; (first | done | rfl)); (first | refine wcd_T ?_ | refine wcd_F ?_)
    | refine w_skip ?_ | refine w_exit ?_ | refine w_ret ?_
    | fail
    )
        refine ⟨.inr rfl, ?_⟩
        simp only [go_sem, Nat.reduceEqDiff, Nat.reduceAdd, Nat.reduceLeDiff, retOf, resOf, f2, splice, List.take_succ_cons, List.drop_succ_cons, List.modify_zero_cons, List.modify_cons, hrule]
      | false =>
        rw [if_neg (of_decide_eq_false hw)]
        (repeat' first
    | refine w_seq ?_ | refine w_rg ?_ | refine wo_nil ?_ | refine g_skU ?_ | refine g_skT ?_ | refine g_skF ?_
    | ((first | apply s_plain | apply s_void | apply s_guard | apply g_goT | apply g_goF); · simp only [go_sem, Nat.reduceEqDiff, Nat.reduceAdd, Nat.reduceLeDiff]; (first | done | rfl))
    | ((first | apply g_T | apply g_F | apply g_gT | apply g_gF); · intro q1_; (first | intro q2_ | have q2_ := q1_); simp only [go_sem, Nat.reduceEqDiff, Nat.reduceAdd, Nat.reduceLeDiff, q1_, q2_]; (first | done | rfl))
    | (apply w_condX; · simp only [go_sem, Nat.reduceEqDiff, Nat.reduceAdd, Nat.reduceLeDiff]; (first | done | rfl)); (first | refine wcd_T ?_ | refine wcd_F ?_)
    | refine w_skip ?_ | refine w_exit ?_ | refine w_ret ?_
    | fail
    )
        (repeat' first
    | refine w_seq ?_ | refine w_rg ?_ | refine wo_nil ?_ | refine g_skU ?_ | refine g_skT ?_ | refine g_skF ?_
    | ((first | apply s_plain | apply s_void | apply s_guard | apply g_goT | apply g_goF); · simp only [go_sem, Nat.reduceEqDiff, Nat.reduceAdd, Nat.reduceLeDiff, f2, m2]; (first | done | rfl))
    | ((first | apply g_T | apply g_F | apply g_gT | apply g_gF); · intro q1_; (first | intro q2_ | have q2_ := q1_); simp only [go_sem, Nat.reduceEqDiff, Nat.reduceAdd, Nat.reduceLeDiff, f2, m2, q1_, q2_]; (first | done | rfl))
    | (apply w_condX; · simp only [go_sem, Nat.reduceEqDiff, Nat.reduceAdd, Nat.reduceLeDiff, f2, m2]; (first | done | rfl)); (first | refine wcd_T ?_ | refine wcd_F ?_)
    | refine w_skip ?_ | refine w_exit ?_ | refine w_ret ?_
    | fail
    )
        refine ⟨.inr rfl, ?_⟩
        simp only [go_sem, Nat.reduceEqDiff, Nat.reduceAdd, Nat.reduceLeDiff, retOf, resOf, f2, splice, List.take_succ_cons, List.drop_succ_cons, List.modify_zero_cons, List.modify_cons]
        rfl
  · have hc : ((l.length : Int) != 8) = true := by simp; omega
    have hrd : readP l = (emptyR, 6) := by unfold readP; rw [if_neg (fun h => h8 h.1)]
    rw [hrd]
    (repeat' first
    | refine w_seq ?_ | refine w_rg ?_ | refine wo_nil ?_ | refine g_skU ?_ | refine g_skT ?_ | refine g_skF ?_
    | ((first | apply s_plain | apply s_void | apply s_guard | apply g_goT | apply g_goF); · simp only [go_sem, Nat.reduceEqDiff, Nat.reduceAdd, Nat.reduceLeDiff, hll, hc]; (first | done | rfl))
    | ((first | apply g_T | apply g_F | apply g_gT | apply g_gF); · intro q1_; (first | intro q2_ | have q2_ := q1_); simp only [go_sem, Nat.reduceEqDiff, Nat.reduceAdd, Nat.reduceLeDiff, hll, hc, q1_, q2_]; (first | done | rfl))
    | (apply w_condX; · simp only [go_sem, Nat.reduceEqDiff, Nat.reduceAdd, Nat.reduceLeDiff, hll, hc]; (first | done | rfl)); (first | refine wcd_T ?_ | refine wcd_F ?_)
    | refine w_skip ?_ | refine w_exit ?_ | refine w_ret ?_
    | fail
    )
    exact ⟨by first | exact .inr rfl | exact .inr trivial | exact .inl rfl, by simp only [go_sem, Nat.reduceEqDiff, Nat.reduceAdd, Nat.reduceLeDiff, retOf, resOf, rule, emptyR, labs]; first | done | rfl⟩
end

def d233 : Def := (.code 1 [.tmp 2] (.seq (.rg false [⟨.some 2, .none, .mv (.c (.bool false))⟩]) (.seq (.rg false [⟨.some 7, .none, .mv (.t 0)⟩, ⟨.some 8, .none, .mv (.t 0)⟩, ⟨.some 9, .none, .lenS (.t 8)⟩, ⟨.some 10, .none, .mnmx false [.t 9, .c (.int .i64 1500)]⟩, ⟨.some 11, .none, .slcS (.t 7) .none (.some (.t 10))⟩, ⟨.some 0, .none, .mv (.t 11)⟩]) (.seq (.rg false [⟨.some 13, .none, .mv (.t 0)⟩, ⟨.some 14, .none, .call 204 .pure [.t 13]⟩, ⟨.some 12, .none, .mv (.t 14)⟩, ⟨.some 15, .none, .ext (.t 12) 0⟩, ⟨.some 16, .none, .ext (.t 12) 1⟩, ⟨.some 3, .none, .mv (.t 15)⟩, ⟨.some 4, .none, .mv (.t 16)⟩]) (.seq (.rg false [⟨.some 18, .none, .mv (.t 0)⟩, ⟨.some 19, .none, .call 208 .pure [.t 18]⟩, ⟨.some 17, .none, .mv (.t 19)⟩, ⟨.some 20, .none, .ext (.t 17) 0⟩, ⟨.some 21, .none, .ext (.t 17) 1⟩, ⟨.some 5, .none, .mv (.t 20)⟩, ⟨.some 6, .none, .mv (.t 21)⟩]) (.seq (.seq (.rg false [⟨.some 22, .none, .mv (.t 6)⟩, ⟨.some 23, .none, .un .not (.t 22)⟩]) (.cond (.t 23) (.seq (.rg false [⟨.some 24, .none, .call 240 .pure []⟩, ⟨.some 25, .none, .mv (.t 24)⟩, ⟨.some 26, .some (25, true), .mv (.t 4)⟩, ⟨.some 27, .some (25, true), .bin .eql (.t 26) (.c (.int .i64 6))⟩, ⟨.some 28, .none, .pick (.t 25) (.t 27) (.c (.bool false))⟩, ⟨.some 29, .none, .mv (.t 28)⟩, ⟨.some 30, .some (29, true), .mv (.t 3)⟩, ⟨.some 31, .some (29, true), .lenL (.t 30)⟩, ⟨.some 32, .some (29, true), .bin .eql (.t 31) (.c (.int .i64 0))⟩, ⟨.some 33, .none, .pick (.t 29) (.t 32) (.c (.bool false))⟩, ⟨.some 2, .none, .mv (.t 33)⟩]) .ret) .skip)) (.seq (.rg false [⟨.some 34, .none, .call 240 .pure []⟩, ⟨.some 35, .none, .mv (.t 34)⟩, ⟨.some 36, .some (35, true), .mv (.t 4)⟩, ⟨.some 37, .some (35, true), .bin .eql (.t 36) (.c (.int .i64 0))⟩, ⟨.some 38, .none, .pick (.t 35) (.t 37) (.c (.bool false))⟩, ⟨.some 39, .none, .mv (.t 38)⟩, ⟨.some 40, .some (39, true), .mv (.t 3)⟩, ⟨.some 41, .some (39, true), .mv (.t 5)⟩, ⟨.some 42, .some (39, true), .call 192 .pure [.t 40, .t 41]⟩, ⟨.some 43, .none, .pick (.t 39) (.t 42) (.c (.bool false))⟩, ⟨.some 2, .none, .mv (.t 43)⟩]) .ret)))))))
def lcg : List (Nat × Def) := [(233, d233)]
section
variable {env : Nat → Option Def} {fr : Fr} {σ σ' σ'' : St} {K : Fr → St → Prop} {Q : X → Fr → St → Prop} {p : PV} {bs : List UInt8}
theorem cut1500 (l : List UInt8) : (l.take (min l.length 1500)).length ≤ 1500 := by rw [List.length_take]; omega
theorem parseS_len {s : List UInt8} : (parseS s).1.length ≤ 8 := by
  by_cases h : (parseS s).2 = 0
  · have e : parseS s = ((parseS s).1, 0) := by rw [← h]
    exact (right_iff.1 (parse_ok e).1).2.2
  · rw [parse_bad h]; exact Nat.zero_le _
theorem a233 (H : Has la0 env) (G : Has lc env) (L : Has ll0 env) (M : Has lm0 env) (N : Has ln0 env) (P : Has lp env) (U : Has lu env) (C : Has lca env) (D : Has lcb env) (B : Has lbb env) (S : Has lbs env) (T : Has lcc env) (V : Has lcd env) (E : Has lce env) (F : Has lcf env) (R : Has lcg env)
    (hal : AV env 240 [] = some (.sc (.bool true))) (x : ByteArray) : AV env 233 [.sc (.string x)] = some (.sc (.bool true)) := by
  rw [← txt_eta x]
  generalize x.data.toList = l
  have hs := cut1500 l
  have b15 : bound l.length (.sc (.int .i64 (min (l.length : Int) 1500))) = some (min l.length 1500) := bound_min rfl
  have h204 := a204 H G P U C D B S T V (s := l.take (min l.length 1500)) (by omega)
  have h208 := a208 L M U E F (s := l.take (min l.length 1500)) (by omega)
  have hsame := parse_same (l.take (min l.length 1500))
  have hlen := @parseS_len (l.take (min l.length 1500))
  generalize hsq : l.take (min l.length 1500) = s at *
  refine AV_wp (R (233, d233) (by simp [lcg])) rfl ?_
  by_cases h : (parseS s).2 = 0
  · have hz : (parseR s).2 = true := by rw [hsame.1, h]; rfl
    have h192 := a192 N (a := (parseS s).1) (b := (parseR s).1) (by omega)
    rw [show sameL (parseS s).1 (parseR s).1 = true by unfold sameL; exact decide_eq_true (hsame.2 h)] at h192
    rw [hz] at h208
    rw [h] at h204
    (repeat' first
    | refine w_seq ?_ | refine w_rg ?_ | refine wo_nil ?_ | refine g_skU ?_ | refine g_skT ?_ | refine g_skF ?_
    | ((first | apply s_plain | apply s_void | apply s_guard | apply g_goT | apply g_goF); · simp only [go_sem, Nat.reduceEqDiff, Nat.reduceAdd, Nat.reduceLeDiff, mn2, b15, ba_data, ba_size, ba_toList, ba_extract, ba_append, List.toList_toArray, List.drop_zero, hsq, h204, h208]; (first | done | rfl))
    | ((first | apply g_T | apply g_F | apply g_gT | apply g_gF); · intro q1_; (first | intro q2_ | have q2_ := q1_); simp only [go_sem, Nat.reduceEqDiff, Nat.reduceAdd, Nat.reduceLeDiff, mn2, b15, ba_data, ba_size, ba_toList, ba_extract, ba_append, List.toList_toArray, List.drop_zero, hsq, h204, h208, q1_, q2_]; (first | done | rfl))
    | (apply w_condX; · simp only [go_sem, Nat.reduceEqDiff, Nat.reduceAdd, Nat.reduceLeDiff, mn2, b15, ba_data, ba_size, ba_toList, ba_extract, ba_append, List.toList_toArray, List.drop_zero, hsq, h204, h208]; (first | done | rfl)); (first | refine wcd_T ?_ | refine wcd_F ?_)
    | refine w_skip ?_ | refine w_exit ?_ | refine w_ret ?_
    | fail
    )
    (repeat' first
    | refine w_seq ?_ | refine w_rg ?_ | refine wo_nil ?_ | refine g_skU ?_ | refine g_skT ?_ | refine g_skF ?_
    | ((first | apply s_plain | apply s_void | apply s_guard | apply g_goT | apply g_goF); · simp only [go_sem, Nat.reduceEqDiff, Nat.reduceAdd, Nat.reduceLeDiff, hal, h192]; (first | done | rfl))
    | ((first | apply g_T | apply g_F | apply g_gT | apply g_gF); · intro q1_; (first | intro q2_ | have q2_ := q1_); simp only [go_sem, Nat.reduceEqDiff, Nat.reduceAdd, Nat.reduceLeDiff, hal, h192, q1_, q2_]; (first | done | rfl))
    | (apply w_condX; · simp only [go_sem, Nat.reduceEqDiff, Nat.reduceAdd, Nat.reduceLeDiff, hal, h192]; (first | done | rfl)); (first | refine wcd_T ?_ | refine wcd_F ?_)
    | refine w_skip ?_ | refine w_exit ?_ | refine w_ret ?_
    | fail
    )
    exact ⟨by first | exact .inr rfl | exact .inr trivial | exact .inl rfl, by simp only [go_sem, Nat.reduceEqDiff, Nat.reduceAdd, Nat.reduceLeDiff, retOf, resOf]; first | done | rfl⟩
  · have hz : (parseR s).2 = false := by rw [hsame.1]; simpa using h
    rw [hz] at h208
    rw [parse_bad h] at h204
    (repeat' first
    | refine w_seq ?_ | refine w_rg ?_ | refine wo_nil ?_ | refine g_skU ?_ | refine g_skT ?_ | refine g_skF ?_
    | ((first | apply s_plain | apply s_void | apply s_guard | apply g_goT | apply g_goF); · simp only [go_sem, Nat.reduceEqDiff, Nat.reduceAdd, Nat.reduceLeDiff, mn2, b15, ba_data, ba_size, ba_toList, ba_extract, ba_append, List.toList_toArray, List.drop_zero, hsq, h204, h208]; (first | done | rfl))
    | ((first | apply g_T | apply g_F | apply g_gT | apply g_gF); · intro q1_; (first | intro q2_ | have q2_ := q1_); simp only [go_sem, Nat.reduceEqDiff, Nat.reduceAdd, Nat.reduceLeDiff, mn2, b15, ba_data, ba_size, ba_toList, ba_extract, ba_append, List.toList_toArray, List.drop_zero, hsq, h204, h208, q1_, q2_]; (first | done | rfl))
    | (apply w_condX; · simp only [go_sem, Nat.reduceEqDiff, Nat.reduceAdd, Nat.reduceLeDiff, mn2, b15, ba_data, ba_size, ba_toList, ba_extract, ba_append, List.toList_toArray, List.drop_zero, hsq, h204, h208]; (first | done | rfl)); (first | refine wcd_T ?_ | refine wcd_F ?_)
    | refine w_skip ?_ | refine w_exit ?_ | refine w_ret ?_
    | fail
    )
    (repeat' first
    | refine w_seq ?_ | refine w_rg ?_ | refine wo_nil ?_ | refine g_skU ?_ | refine g_skT ?_ | refine g_skF ?_
    | ((first | apply s_plain | apply s_void | apply s_guard | apply g_goT | apply g_goF); · simp only [go_sem, Nat.reduceEqDiff, Nat.reduceAdd, Nat.reduceLeDiff, hal, labs]; (first | done | rfl))
    | ((first | apply g_T | apply g_F | apply g_gT | apply g_gF); · intro q1_; (first | intro q2_ | have q2_ := q1_); simp only [go_sem, Nat.reduceEqDiff, Nat.reduceAdd, Nat.reduceLeDiff, hal, labs, q1_, q2_]; (first | done | rfl))
    | (apply w_condX; · simp only [go_sem, Nat.reduceEqDiff, Nat.reduceAdd, Nat.reduceLeDiff, hal, labs]; (first | done | rfl)); (first | refine wcd_T ?_ | refine wcd_F ?_)
    | refine w_skip ?_ | refine w_exit ?_ | refine w_ret ?_
    | fail
    )
    exact ⟨by first | exact .inr rfl | exact .inr trivial | exact .inl rfl, by simp only [go_sem, Nat.reduceEqDiff, Nat.reduceAdd, Nat.reduceLeDiff, retOf, resOf]; first | done | rfl⟩
end

section
variable {env : Nat → Option Def} {fr : Fr} {σ σ' σ'' : St} {K : Fr → St → Prop} {Q : X → Fr → St → Prop} {p : PV} {bs : List UInt8}
theorem readP_fits {l : List ByteArray} (hs : ∀ s ∈ l, s.size ≤ 1000) : (readP l).1.Fits := by
  unfold readP
  split
  · rename_i h
    have hl := list8 h.1
    obtain ⟨hp8, hps⟩ := parseS_held (l.getD 7 ⟨#[]⟩).data.toList
    have h0 : (l.getD 0 ⟨#[]⟩) ∈ l := by rw [List.getD_eq_getElem?_getD, List.getElem?_eq_getElem (by omega)]; exact List.getElem_mem _
    have h1 : (l.getD 1 ⟨#[]⟩) ∈ l := by rw [List.getD_eq_getElem?_getD, List.getElem?_eq_getElem (by omega)]; exact List.getElem_mem _
    exact ⟨small_of (hs _ h0) (by decide), small_of (hs _ h1) (by decide), (by show (parseS _).1.length ≤ _; omega), fun m hm => ⟨small_of (hps m hm).1 (by decide), small_of (hps m hm).2 (by decide)⟩⟩
  · exact ⟨small_of (n := 0) (by decide) (by decide), small_of (n := 0) (by decide) (by decide), Nat.zero_le _, fun m hm => by simp [emptyR] at hm⟩
end

def d209 : Def := (.code 1 [.tmp 2] (.seq (.rg false [⟨.some 2, .none, .mv (.c (.int .i64 0))⟩]) (.seq (.rg false [⟨.some 3, .none, .mv (.c (.int .i64 0))⟩]) (.seq (.rg false [⟨.some 4, .none, .mv (.c (.int .i64 0))⟩]) (.seq (.seq (.rg false [⟨.some 6, .none, .mv (.t 0)⟩, ⟨.some 7, .none, .lenS (.t 6)⟩, ⟨.some 8, .none, .bin .gtr (.t 7) (.c (.int .i64 0))⟩, ⟨.some 9, .none, .mv (.t 8)⟩, ⟨.some 10, .some (9, true), .mv (.t 0)⟩, ⟨.some 11, .some (9, true), .ix (.t 10) (.c (.int .i64 0))⟩, ⟨.some 12, .some (9, true), .bin .eql (.t 11) (.c (.int .u8 45))⟩, ⟨.some 13, .none, .pick (.t 9) (.t 12) (.c (.bool false))⟩]) (.cond (.t 13) (.rg false [⟨.some 4, .none, .mv (.c (.int .i64 1))⟩]) .skip)) (.seq (.seq (.rg false [⟨.some 14, .none, .mv (.t 4)⟩, ⟨.some 5, .none, .mv (.t 14)⟩]) (.block 0 (.loop (.seq (.seq (.rg false [⟨.some 15, .none, .mv (.t 5)⟩, ⟨.some 16, .none, .mv (.t 0)⟩, ⟨.some 17, .none, .lenS (.t 16)⟩, ⟨.some 18, .none, .bin .lss (.t 15) (.t 17)⟩]) (.cond (.t 18) .skip (.exit 0))) (.seq (.block 1 (.seq (.seq (.rg false [⟨.some 21, .none, .mv (.t 0)⟩, ⟨.some 22, .none, .mv (.t 5)⟩, ⟨.some 23, .none, .ix (.t 21) (.t 22)⟩, ⟨.some 24, .none, .bin .lss (.t 23) (.c (.int .u8 48))⟩, ⟨.some 25, .none, .mv (.t 24)⟩, ⟨.some 26, .some (25, false), .mv (.t 0)⟩, ⟨.some 27, .some (25, false), .mv (.t 5)⟩, ⟨.some 28, .some (25, false), .ix (.t 26) (.t 27)⟩, ⟨.some 29, .some (25, false), .bin .gtr (.t 28) (.c (.int .u8 57))⟩, ⟨.some 30, .none, .pick (.t 25) (.c (.bool true)) (.t 29)⟩, ⟨.some 31, .none, .mv (.t 30)⟩, ⟨.some 32, .some (31, false), .mv (.t 3)⟩, ⟨.some 33, .some (31, false), .bin .gtr (.t 32) (.c (.int .i64 1099511627776))⟩, ⟨.some 34, .none, .pick (.t 31) (.c (.bool true)) (.t 33)⟩]) (.cond (.t 34) (.seq (.rg false [⟨.some 2, .none, .mv (.c (.int .i64 2199023255552))⟩]) .ret) .skip)) (.rg false [⟨.some 35, .none, .mv (.t 3)⟩, ⟨.some 36, .none, .bin .mul (.c (.int .i64 10)) (.t 35)⟩, ⟨.some 37, .none, .mv (.t 0)⟩, ⟨.some 38, .none, .mv (.t 5)⟩, ⟨.some 39, .none, .ix (.t 37) (.t 38)⟩, ⟨.some 40, .none, .bin .sub (.t 39) (.c (.int .u8 48))⟩, ⟨.some 41, .none, .cvi .i64 (.t 40)⟩, ⟨.some 42, .none, .bin .add (.t 36) (.t 41)⟩, ⟨.some 3, .none, .mv (.t 42)⟩]))) (.rg false [⟨.some 19, .none, .mv (.t 5)⟩, ⟨.some 20, .none, .bin .add (.t 19) (.c (.int .i64 1))⟩, ⟨.some 5, .none, .mv (.t 20)⟩])))))) (.seq (.seq (.rg false [⟨.some 43, .none, .mv (.t 4)⟩, ⟨.some 44, .none, .bin .eql (.t 43) (.c (.int .i64 1))⟩]) (.cond (.t 44) (.rg false [⟨.some 45, .none, .mv (.t 3)⟩, ⟨.some 46, .none, .bin .sub (.c (.int .i64 0)) (.t 45)⟩, ⟨.some 3, .none, .mv (.t 46)⟩]) .skip)) (.seq (.seq (.rg false [⟨.some 47, .none, .mv (.t 3)⟩, ⟨.some 48, .none, .call 203 .pure [.t 47]⟩, ⟨.some 49, .none, .mv (.t 0)⟩, ⟨.some 50, .none, .bin .neq (.t 48) (.t 49)⟩]) (.cond (.t 50) (.seq (.rg false [⟨.some 2, .none, .mv (.c (.int .i64 2199023255552))⟩]) .ret) .skip)) (.seq (.rg false [⟨.some 51, .none, .mv (.t 3)⟩, ⟨.some 2, .none, .mv (.t 51)⟩]) .ret)))))))))
def d196 : Def := (.code 1 [.cell 2 (.some 8), .tmp 3] (.seq (.rg false [⟨.some 2, .none, .box (.c (.agg #[.string ⟨#[]⟩, .string ⟨#[]⟩, .int .i64 0, .int .i64 0, .int .i64 0, .int .i64 0, .int .i64 0, .slice .none 0 0]))⟩, ⟨.some 3, .none, .mv (.c (.bool false))⟩]) (.seq (.seq (.rg false [⟨.some 8, .none, .mv (.t 0)⟩, ⟨.some 9, .none, .lenL (.t 8)⟩, ⟨.some 10, .none, .bin .neq (.t 9) (.c (.int .i64 8))⟩]) (.cond (.t 10) (.seq (.rg false [⟨.some 11, .none, .build (.agg #[.string ⟨#[]⟩, .string ⟨#[]⟩, .int .i64 0, .int .i64 0, .int .i64 0, .int .i64 0, .int .i64 0, .slice .none 0 0]) []⟩, ⟨.none, .none, .st 8 (.t 2) (.t 11)⟩, ⟨.some 3, .none, .mv (.c (.bool false))⟩]) .ret) .skip)) (.seq (.rg false [⟨.some 13, .none, .mv (.t 0)⟩, ⟨.some 14, .none, .ia 1 (.t 13) (.c (.int .i64 7))⟩, ⟨.some 15, .none, .ld .none (.t 14)⟩, ⟨.some 16, .none, .call 208 .pure [.t 15]⟩, ⟨.some 12, .none, .mv (.t 16)⟩, ⟨.some 17, .none, .ext (.t 12) 0⟩, ⟨.some 18, .none, .ext (.t 12) 1⟩, ⟨.some 4, .none, .mv (.t 17)⟩, ⟨.some 5, .none, .mv (.t 18)⟩]) (.seq (.rg true [⟨.some 19, .none, .mv (.t 0)⟩, ⟨.some 20, .none, .ia 1 (.t 19) (.c (.int .i64 0))⟩, ⟨.some 21, .none, .ld .none (.t 20)⟩, ⟨.some 22, .none, .mv (.t 0)⟩, ⟨.some 23, .none, .ia 1 (.t 22) (.c (.int .i64 1))⟩, ⟨.some 24, .none, .ld .none (.t 23)⟩, ⟨.some 25, .none, .mv (.t 0)⟩, ⟨.some 26, .none, .ia 1 (.t 25) (.c (.int .i64 3))⟩, ⟨.some 27, .none, .ld .none (.t 26)⟩, ⟨.some 28, .none, .call 209 .strict [.t 27]⟩, ⟨.some 29, .none, .mv (.t 0)⟩, ⟨.some 30, .none, .ia 1 (.t 29) (.c (.int .i64 4))⟩, ⟨.some 31, .none, .ld .none (.t 30)⟩, ⟨.some 32, .none, .call 209 .strict [.t 31]⟩, ⟨.some 33, .none, .mv (.t 0)⟩, ⟨.some 34, .none, .ia 1 (.t 33) (.c (.int .i64 5))⟩, ⟨.some 35, .none, .ld .none (.t 34)⟩, ⟨.some 36, .none, .call 209 .strict [.t 35]⟩, ⟨.some 37, .none, .mv (.t 0)⟩, ⟨.some 38, .none, .ia 1 (.t 37) (.c (.int .i64 6))⟩, ⟨.some 39, .none, .ld .none (.t 38)⟩, ⟨.some 40, .none, .call 209 .strict [.t 39]⟩, ⟨.some 41, .none, .mv (.t 4)⟩, ⟨.some 42, .none, .build (.agg #[.string ⟨#[]⟩, .string ⟨#[]⟩, .int .i64 0, .int .i64 0, .int .i64 0, .int .i64 0, .int .i64 0, .slice .none 0 0]) [(0, (1, .t 21)), (1, (1, .t 24)), (3, (1, .t 28)), (4, (1, .t 32)), (5, (1, .t 36)), (6, (1, .t 40)), (7, (1, .t 41))]⟩, ⟨.some 6, .none, .box (.c (.agg #[.string ⟨#[]⟩, .string ⟨#[]⟩, .int .i64 0, .int .i64 0, .int .i64 0, .int .i64 0, .int .i64 0, .slice .none 0 0]))⟩, ⟨.none, .none, .st 8 (.t 6) (.t 42)⟩]) (.seq (.seq (.rg false [⟨.some 7, .none, .mv (.c (.int .i64 1))⟩]) (.block 0 (.loop (.seq (.seq (.rg false [⟨.some 43, .none, .mv (.t 7)⟩, ⟨.some 44, .none, .bin .lss (.t 43) (.c (.int .i64 6))⟩]) (.cond (.t 44) .skip (.exit 0))) (.seq (.block 1 (.seq (.rg true [⟨.some 47, .none, .mv (.t 7)⟩, ⟨.some 48, .none, .call 210 .strict [.t 47]⟩, ⟨.some 49, .none, .mv (.t 0)⟩, ⟨.some 50, .none, .ia 1 (.t 49) (.c (.int .i64 2))⟩, ⟨.some 51, .none, .ld .none (.t 50)⟩, ⟨.some 52, .none, .bin .eql (.t 48) (.t 51)⟩]) (.cond (.t 52) (.rg false [⟨.some 53, .none, .mv (.t 7)⟩, ⟨.some 54, .none, .fa 2 (.t 6)⟩, ⟨.none, .none, .st 1 (.t 54) (.t 53)⟩]) .skip))) (.rg false [⟨.some 45, .none, .mv (.t 7)⟩, ⟨.some 46, .none, .bin .add (.t 45) (.c (.int .i64 1))⟩, ⟨.some 7, .none, .mv (.t 46)⟩])))))) (.seq (.seq (.rg false [⟨.some 55, .none, .mv (.t 5)⟩, ⟨.some 56, .none, .un .not (.t 55)⟩, ⟨.some 57, .none, .mv (.t 56)⟩, ⟨.some 58, .some (57, false), .ld (.some 8) (.t 6)⟩, ⟨.some 59, .some (57, false), .call 187 .pure [.t 58]⟩, ⟨.some 60, .some (57, false), .un .not (.t 59)⟩, ⟨.some 61, .none, .pick (.t 57) (.c (.bool true)) (.t 60)⟩]) (.cond (.t 61) (.seq (.rg false [⟨.some 62, .none, .build (.agg #[.string ⟨#[]⟩, .string ⟨#[]⟩, .int .i64 0, .int .i64 0, .int .i64 0, .int .i64 0, .int .i64 0, .slice .none 0 0]) []⟩, ⟨.none, .none, .st 8 (.t 2) (.t 62)⟩, ⟨.some 3, .none, .mv (.c (.bool false))⟩]) .ret) .skip)) (.seq (.rg false [⟨.some 63, .none, .ld (.some 8) (.t 6)⟩, ⟨.none, .none, .st 8 (.t 2) (.t 63)⟩, ⟨.some 3, .none, .mv (.c (.bool true))⟩]) .ret))))))))
def lhi : List (Nat × Def) := [(209, d209), (196, d196)]
section
variable {env : Nat → Option Def} {fr : Fr} {σ σ' σ'' : St} {K : Fr → St → Prop} {Q : X → Fr → St → Prop} {p : PV} {bs : List UInt8}
theorem digR_drop {s : List UInt8} {i : Nat} (hi : i < s.length) (n : Int) : digR (s.drop i) n = if s[i].toNat < 48 ∨ s[i].toNat > 57 ∨ n > 1099511627776 then none else digR (s.drop (i + 1)) (10 * n + ((s[i].toNat : Int) - 48)) := by
  rw [List.drop_eq_getElem_cons hi]
  rfl
theorem wgd_mono {g : PV} {want : Bool} {d t : Nat} {op : PO} {ops : List POp} {K K' : Fr → St → Prop} (h : Wgd env g want d op ops K t fr σ) (hk : ∀ fr σ, K fr σ → K' fr σ) : Wgd env g want d op ops K' t fr σ := by
  unfold Wgd Wos at h ⊢
  intro hg
  obtain ⟨a, b, c, e⟩ := h hg
  exact ⟨a, b, c, hk a b e⟩
theorem neg_pos {s : List UInt8} (h : isNeg s = true) : 1 ≤ s.length := by
  cases s with
  | nil => cases h
  | cons c t => simp
theorem a209 (A : Has lha env) (L : Has lhi env) {s : List UInt8} (hs : s.length ≤ 4000000000) : AV env 209 [txt s] = some (.sc (.int .i64 (numR s))) := by
  refine AV_wp (L (209, d209) (by simp [lhi])) rfl ?_
  (repeat' first
    | refine w_seq ?_ | refine w_rg ?_ | refine wo_nil ?_ | refine g_skU ?_ | refine g_skT ?_ | refine g_skF ?_
    | ((first | apply s_plain | apply s_void | apply s_guard | apply g_goT | apply g_goF); · simp only [go_sem, Nat.reduceEqDiff, Nat.reduceAdd, Nat.reduceLeDiff, ba_data, ba_size, ba_toList, ba_extract, ba_append, List.toList_toArray]; (first | done | rfl))
    | ((first | apply g_T | apply g_F | apply g_gT | apply g_gF); · intro q1_; (first | intro q2_ | have q2_ := q1_); simp only [go_sem, Nat.reduceEqDiff, Nat.reduceAdd, Nat.reduceLeDiff, ba_data, ba_size, ba_toList, ba_extract, ba_append, List.toList_toArray, q1_, q2_]; (first | done | rfl))
    | fail
    )
  refine wgd_mono (K := fun fr' σ' => fr' 0 = txt s ∧ fr' 3 = .sc (.int .i64 0) ∧ fr' 4 = .sc (.int .i64 0) ∧ fr' 13 = .sc (.bool (isNeg s)) ∧ σ' = St.nil) ?_ ?_
  · cases s with
    | nil =>
      rw [show decide ((([] : List UInt8).length : Int) > 0) = false from rfl]
      (repeat' first
    | refine w_seq ?_ | refine w_rg ?_ | refine wo_nil ?_ | refine g_skU ?_ | refine g_skT ?_ | refine g_skF ?_
    | ((first | apply s_plain | apply s_void | apply s_guard | apply g_goT | apply g_goF); · simp only [go_sem, Nat.reduceEqDiff, Nat.reduceAdd, Nat.reduceLeDiff]; (first | done | rfl))
    | ((first | apply g_T | apply g_F | apply g_gT | apply g_gF); · intro q1_; (first | intro q2_ | have q2_ := q1_); simp only [go_sem, Nat.reduceEqDiff, Nat.reduceAdd, Nat.reduceLeDiff, q1_, q2_]; (first | done | rfl))
    | fail
    )
      exact ⟨by simp only [go_sem, Nat.reduceEqDiff, Nat.reduceAdd, Nat.reduceLeDiff], by simp only [go_sem, Nat.reduceEqDiff, Nat.reduceAdd, Nat.reduceLeDiff], by simp only [go_sem, Nat.reduceEqDiff, Nat.reduceAdd, Nat.reduceLeDiff], by simp only [go_sem, Nat.reduceEqDiff, Nat.reduceAdd, Nat.reduceLeDiff, isNeg], rfl⟩
    | cons c t =>
      have hd : decide (((c :: t).length : Int) > 0) = true := by simp
      have e1 : (0 : Int) ≤ 0 ∧ (0 : Int) < ((c :: t).length : Int) := by simp
      have e2 : ((c.toNat : Int) == 45) = isNeg (c :: t) := by
        by_cases h : c = 45
        · subst h; rfl
        · have h1 : isNeg (c :: t) = false := by unfold isNeg; split <;> simp_all
          rw [h1, beq_eq_false_iff_ne]
          intro h2
          exact h (UInt8.toNat_inj.1 (by have : c.toNat = 45 := by omega
                                         simpa using this))
      rw [hd]
      (repeat' first
    | refine w_seq ?_ | refine w_rg ?_ | refine wo_nil ?_ | refine g_skU ?_ | refine g_skT ?_ | refine g_skF ?_
    | ((first | apply s_plain | apply s_void | apply s_guard | apply g_goT | apply g_goF); · simp only [go_sem, Nat.reduceEqDiff, Nat.reduceAdd, Nat.reduceLeDiff, e1, ba_data, ba_size, ba_toList, ba_extract, ba_append, List.toList_toArray, List.getElem?_cons_zero, Int.toNat_zero, e2]; (first | done | rfl))
    | ((first | apply g_T | apply g_F | apply g_gT | apply g_gF); · intro q1_; (first | intro q2_ | have q2_ := q1_); simp only [go_sem, Nat.reduceEqDiff, Nat.reduceAdd, Nat.reduceLeDiff, e1, ba_data, ba_size, ba_toList, ba_extract, ba_append, List.toList_toArray, List.getElem?_cons_zero, Int.toNat_zero, e2, q1_, q2_]; (first | done | rfl))
    | fail
    )
      exact ⟨by simp only [go_sem, Nat.reduceEqDiff, Nat.reduceAdd, Nat.reduceLeDiff], by simp only [go_sem, Nat.reduceEqDiff, Nat.reduceAdd, Nat.reduceLeDiff], by simp only [go_sem, Nat.reduceEqDiff, Nat.reduceAdd, Nat.reduceLeDiff], by simp only [go_sem, Nat.reduceEqDiff, Nat.reduceAdd, Nat.reduceLeDiff], rfl⟩
  rintro fr σ ⟨h0, h3, h4, h13, rfl⟩
  refine Wp.mono (Q := fun x fr τ => x = .normal ∧ fr 0 = txt s ∧ fr 3 = .sc (.int .i64 0) ∧ fr 4 = .sc (.int .i64 ((if isNeg s = true then 1 else 0 : Nat) : Int))) ?_ ?_
  · refine w_condB (b := isNeg s) h13 (fun hc => ?_) (fun hc => ?_)
    · (repeat' first
    | refine w_seq ?_ | refine w_rg ?_ | refine wo_nil ?_ | refine g_skU ?_ | refine g_skT ?_ | refine g_skF ?_
    | ((first | apply s_plain | apply s_void | apply s_guard | apply g_goT | apply g_goF); · simp only [go_sem, Nat.reduceEqDiff, Nat.reduceAdd, Nat.reduceLeDiff]; (first | done | rfl))
    | ((first | apply g_T | apply g_F | apply g_gT | apply g_gF); · intro q1_; (first | intro q2_ | have q2_ := q1_); simp only [go_sem, Nat.reduceEqDiff, Nat.reduceAdd, Nat.reduceLeDiff, q1_, q2_]; (first | done | rfl))
    | (apply w_condX; · simp only [go_sem, Nat.reduceEqDiff, Nat.reduceAdd, Nat.reduceLeDiff]; (first | done | rfl)); (first | refine wcd_T ?_ | refine wcd_F ?_)
    | refine w_skip ?_ | refine w_exit ?_ | refine w_ret ?_
    | fail
    )
      exact ⟨rfl, by simp only [go_sem, Nat.reduceEqDiff, Nat.reduceAdd, Nat.reduceLeDiff, h0], by simp only [go_sem, Nat.reduceEqDiff, Nat.reduceAdd, Nat.reduceLeDiff, h3], by rw [hc]; simp only [go_sem, Nat.reduceEqDiff, Nat.reduceAdd, Nat.reduceLeDiff]; rfl⟩
    · (repeat' first
    | refine w_seq ?_ | refine w_rg ?_ | refine wo_nil ?_ | refine g_skU ?_ | refine g_skT ?_ | refine g_skF ?_
    | ((first | apply s_plain | apply s_void | apply s_guard | apply g_goT | apply g_goF); · simp only [go_sem, Nat.reduceEqDiff, Nat.reduceAdd, Nat.reduceLeDiff]; (first | done | rfl))
    | ((first | apply g_T | apply g_F | apply g_gT | apply g_gF); · intro q1_; (first | intro q2_ | have q2_ := q1_); simp only [go_sem, Nat.reduceEqDiff, Nat.reduceAdd, Nat.reduceLeDiff, q1_, q2_]; (first | done | rfl))
    | (apply w_condX; · simp only [go_sem, Nat.reduceEqDiff, Nat.reduceAdd, Nat.reduceLeDiff]; (first | done | rfl)); (first | refine wcd_T ?_ | refine wcd_F ?_)
    | refine w_skip ?_ | refine w_exit ?_ | refine w_ret ?_
    | fail
    )
      exact ⟨rfl, by simp only [go_sem, Nat.reduceEqDiff, Nat.reduceAdd, Nat.reduceLeDiff, h0], by simp only [go_sem, Nat.reduceEqDiff, Nat.reduceAdd, Nat.reduceLeDiff, h3], by rw [h4, hc]; rfl⟩
  clear h0 h3 h4 h13
  rintro x fr τ ⟨rfl, h0, h3, h4⟩
  generalize ha : (if isNeg s = true then 1 else 0 : Nat) = a at h4
  have hal : a ≤ s.length := by
    rw [← ha]; split
    · rename_i h; exact neg_pos h
    · exact Nat.zero_le _
  have hnum : numR s = match digR (s.drop a) 0 with
    | none => 2199023255552
    | some n => if Lib.itoa (if isNeg s then -n else n) = s then (if isNeg s then -n else n) else 2199023255552 := by
    unfold numR
    rw [← ha]
    cases isNeg s <;> rfl
  (repeat' first
    | refine w_seq ?_ | refine w_rg ?_ | refine wo_nil ?_ | refine g_skU ?_ | refine g_skT ?_ | refine g_skF ?_
    | ((first | apply s_plain | apply s_void | apply s_guard | apply g_goT | apply g_goF); · simp only [go_sem, Nat.reduceEqDiff, Nat.reduceAdd, Nat.reduceLeDiff, h4]; (first | done | rfl))
    | ((first | apply g_T | apply g_F | apply g_gT | apply g_gF); · intro q1_; (first | intro q2_ | have q2_ := q1_); simp only [go_sem, Nat.reduceEqDiff, Nat.reduceAdd, Nat.reduceLeDiff, h4, q1_, q2_]; (first | done | rfl))
    | fail
    )
  refine w_block (w_loopF (fun m fr σ => ∃ (i : Nat) (n : Int), m = s.length - i ∧ i ≤ s.length ∧ fr 5 = .sc (.int .i64 i) ∧ fr 3 = .sc (.int .i64 n) ∧ 0 ≤ n ∧ n ≤ 20000000000000 ∧ digR (s.drop a) 0 = digR (s.drop i) n) ?_ (s.length - a) ?_)
  · rintro m fr1 σ1 ⟨i, n, rfl, hi, h5, g3, n0, n1, hdig⟩ hfr
    have k0 := hfr 0 rfl
    have k4 := hfr 4 rfl
    simp only [go_sem, Nat.reduceEqDiff, Nat.reduceAdd, Nat.reduceLeDiff, h0] at k0
    simp only [go_sem, Nat.reduceEqDiff, Nat.reduceAdd, Nat.reduceLeDiff, h4] at k4
    (repeat' first
    | refine w_seq ?_ | refine w_rg ?_ | refine wo_nil ?_ | refine g_skU ?_ | refine g_skT ?_ | refine g_skF ?_
    | ((first | apply s_plain | apply s_void | apply s_guard | apply g_goT | apply g_goF); · simp only [go_sem, Nat.reduceEqDiff, Nat.reduceAdd, Nat.reduceLeDiff, h5, k0, ba_data, ba_size, ba_toList, ba_extract, ba_append, List.toList_toArray]; (first | done | rfl))
    | ((first | apply g_T | apply g_F | apply g_gT | apply g_gF); · intro q1_; (first | intro q2_ | have q2_ := q1_); simp only [go_sem, Nat.reduceEqDiff, Nat.reduceAdd, Nat.reduceLeDiff, h5, k0, ba_data, ba_size, ba_toList, ba_extract, ba_append, List.toList_toArray, q1_, q2_]; (first | done | rfl))
    | fail
    )
    refine w_condB (b := decide ((i : Int) < s.length)) (by simp only [go_sem, Nat.reduceEqDiff, Nat.reduceAdd, Nat.reduceLeDiff]; first | done | rfl) (fun hc => ?_) (fun hc => ?_)
    · have hil : i < s.length := by simpa using hc
      have hx := List.getElem?_eq_getElem hil
      have e1 : (0 : Int) ≤ (i : Int) ∧ (i : Int) < (s.length : Int) := by omega
      rw [digR_drop hil] at hdig
      (repeat' first
    | refine w_seq ?_ | refine w_rg ?_ | refine wo_nil ?_ | refine g_skU ?_ | refine g_skT ?_ | refine g_skF ?_
    | ((first | apply s_plain | apply s_void | apply s_guard | apply g_goT | apply g_goF); · simp only [go_sem, Nat.reduceEqDiff, Nat.reduceAdd, Nat.reduceLeDiff]; (first | done | rfl))
    | ((first | apply g_T | apply g_F | apply g_gT | apply g_gF); · intro q1_; (first | intro q2_ | have q2_ := q1_); simp only [go_sem, Nat.reduceEqDiff, Nat.reduceAdd, Nat.reduceLeDiff, q1_, q2_]; (first | done | rfl))
    | (apply w_condX; · simp only [go_sem, Nat.reduceEqDiff, Nat.reduceAdd, Nat.reduceLeDiff]; (first | done | rfl)); (first | refine wcd_T ?_ | refine wcd_F ?_)
    | refine w_skip ?_ | refine w_exit ?_ | refine w_ret ?_
    | fail
    )
      (repeat' first
    | refine w_seq ?_ | refine w_rg ?_ | refine wo_nil ?_ | refine g_skU ?_ | refine g_skT ?_ | refine g_skF ?_
    | ((first | apply s_plain | apply s_void | apply s_guard | apply g_goT | apply g_goF); · simp only [go_sem, Nat.reduceEqDiff, Nat.reduceAdd, Nat.reduceLeDiff, h5, k0, e1, Int.toNat_natCast, hx, ba_data, ba_size, ba_toList, ba_extract, ba_append, List.toList_toArray]; (first | done | rfl))
    | ((first | apply g_T | apply g_F | apply g_gT | apply g_gF); · intro q1_; (first | intro q2_ | have q2_ := q1_); simp only [go_sem, Nat.reduceEqDiff, Nat.reduceAdd, Nat.reduceLeDiff, h5, k0, e1, Int.toNat_natCast, hx, ba_data, ba_size, ba_toList, ba_extract, ba_append, List.toList_toArray, q1_, q2_]; (first | done | rfl))
    | fail
    )
      refine w_block ?_
      (repeat' first
    | refine w_seq ?_ | refine w_rg ?_ | refine wo_nil ?_ | refine g_skU ?_ | refine g_skT ?_ | refine g_skF ?_
    | ((first | apply s_plain | apply s_void | apply s_guard | apply g_goT | apply g_goF); · simp only [go_sem, Nat.reduceEqDiff, Nat.reduceAdd, Nat.reduceLeDiff, h5, k0, e1, Int.toNat_natCast, hx, ba_data, ba_size, ba_toList, ba_extract, ba_append, List.toList_toArray]; (first | done | rfl))
    | ((first | apply g_T | apply g_F | apply g_gT | apply g_gF); · intro q1_; (first | intro q2_ | have q2_ := q1_); simp only [go_sem, Nat.reduceEqDiff, Nat.reduceAdd, Nat.reduceLeDiff, h5, k0, e1, Int.toNat_natCast, hx, ba_data, ba_size, ba_toList, ba_extract, ba_append, List.toList_toArray, q1_, q2_]; (first | done | rfl))
    | fail
    )
      cases hb1 : decide ((s[i].toNat : Int) < 48) with
      | true =>
        have q1 := of_decide_eq_true hb1
        rw [if_pos (.inl (by omega))] at hdig
        rw [hdig] at hnum
        (repeat' first
    | refine w_seq ?_ | refine w_rg ?_ | refine wo_nil ?_ | refine g_skU ?_ | refine g_skT ?_ | refine g_skF ?_
    | ((first | apply s_plain | apply s_void | apply s_guard | apply g_goT | apply g_goF); · simp only [go_sem, Nat.reduceEqDiff, Nat.reduceAdd, Nat.reduceLeDiff, hb1]; (first | done | rfl))
    | ((first | apply g_T | apply g_F | apply g_gT | apply g_gF); · intro q1_; (first | intro q2_ | have q2_ := q1_); simp only [go_sem, Nat.reduceEqDiff, Nat.reduceAdd, Nat.reduceLeDiff, hb1, q1_, q2_]; (first | done | rfl))
    | fail
    )
        (repeat' first
    | refine w_seq ?_ | refine w_rg ?_ | refine wo_nil ?_ | refine g_skU ?_ | refine g_skT ?_ | refine g_skF ?_
    | ((first | apply s_plain | apply s_void | apply s_guard | apply g_goT | apply g_goF); · simp only [go_sem, Nat.reduceEqDiff, Nat.reduceAdd, Nat.reduceLeDiff]; (first | done | rfl))
    | ((first | apply g_T | apply g_F | apply g_gT | apply g_gF); · intro q1_; (first | intro q2_ | have q2_ := q1_); simp only [go_sem, Nat.reduceEqDiff, Nat.reduceAdd, Nat.reduceLeDiff, q1_, q2_]; (first | done | rfl))
    | (apply w_condX; · simp only [go_sem, Nat.reduceEqDiff, Nat.reduceAdd, Nat.reduceLeDiff]; (first | done | rfl)); (first | refine wcd_T ?_ | refine wcd_F ?_)
    | refine w_skip ?_ | refine w_exit ?_ | refine w_ret ?_
    | fail
    )
        exact ⟨by first | exact .inr rfl | exact .inr trivial | exact .inl rfl, by simp only [go_sem, Nat.reduceEqDiff, Nat.reduceAdd, Nat.reduceLeDiff, retOf, resOf, hnum]; first | done | rfl⟩
      | false =>
        have q1 := of_decide_eq_false hb1
        cases hb2 : decide ((s[i].toNat : Int) > 57) with
        | true =>
          have q2 := of_decide_eq_true hb2
          rw [if_pos (.inr (.inl (by omega)))] at hdig
          rw [hdig] at hnum
          (repeat' first
    | refine w_seq ?_ | refine w_rg ?_ | refine wo_nil ?_ | refine g_skU ?_ | refine g_skT ?_ | refine g_skF ?_
    | ((first | apply s_plain | apply s_void | apply s_guard | apply g_goT | apply g_goF); · simp only [go_sem, Nat.reduceEqDiff, Nat.reduceAdd, Nat.reduceLeDiff, hb1, hb2, h5, k0, e1, Int.toNat_natCast, hx, ba_data, ba_size, ba_toList, ba_extract, ba_append, List.toList_toArray]; (first | done | rfl))
    | ((first | apply g_T | apply g_F | apply g_gT | apply g_gF); · intro q1_; (first | intro q2_ | have q2_ := q1_); simp only [go_sem, Nat.reduceEqDiff, Nat.reduceAdd, Nat.reduceLeDiff, hb1, hb2, h5, k0, e1, Int.toNat_natCast, hx, ba_data, ba_size, ba_toList, ba_extract, ba_append, List.toList_toArray, q1_, q2_]; (first | done | rfl))
    | fail
    )
          (repeat' first
    | refine w_seq ?_ | refine w_rg ?_ | refine wo_nil ?_ | refine g_skU ?_ | refine g_skT ?_ | refine g_skF ?_
    | ((first | apply s_plain | apply s_void | apply s_guard | apply g_goT | apply g_goF); · simp only [go_sem, Nat.reduceEqDiff, Nat.reduceAdd, Nat.reduceLeDiff]; (first | done | rfl))
    | ((first | apply g_T | apply g_F | apply g_gT | apply g_gF); · intro q1_; (first | intro q2_ | have q2_ := q1_); simp only [go_sem, Nat.reduceEqDiff, Nat.reduceAdd, Nat.reduceLeDiff, q1_, q2_]; (first | done | rfl))
    | (apply w_condX; · simp only [go_sem, Nat.reduceEqDiff, Nat.reduceAdd, Nat.reduceLeDiff]; (first | done | rfl)); (first | refine wcd_T ?_ | refine wcd_F ?_)
    | refine w_skip ?_ | refine w_exit ?_ | refine w_ret ?_
    | fail
    )
          exact ⟨by first | exact .inr rfl | exact .inr trivial | exact .inl rfl, by simp only [go_sem, Nat.reduceEqDiff, Nat.reduceAdd, Nat.reduceLeDiff, retOf, resOf, hnum]; first | done | rfl⟩
        | false =>
          have q2 := of_decide_eq_false hb2
          (repeat' first
    | refine w_seq ?_ | refine w_rg ?_ | refine wo_nil ?_ | refine g_skU ?_ | refine g_skT ?_ | refine g_skF ?_
    | ((first | apply s_plain | apply s_void | apply s_guard | apply g_goT | apply g_goF); · simp only [go_sem, Nat.reduceEqDiff, Nat.reduceAdd, Nat.reduceLeDiff, hb1, hb2, h5, k0, e1, Int.toNat_natCast, hx, ba_data, ba_size, ba_toList, ba_extract, ba_append, List.toList_toArray]; (first | done | rfl))
    | ((first | apply g_T | apply g_F | apply g_gT | apply g_gF); · intro q1_; (first | intro q2_ | have q2_ := q1_); simp only [go_sem, Nat.reduceEqDiff, Nat.reduceAdd, Nat.reduceLeDiff, hb1, hb2, h5, k0, e1, Int.toNat_natCast, hx, ba_data, ba_size, ba_toList, ba_extract, ba_append, List.toList_toArray, q1_, q2_]; (first | done | rfl))
    | fail
    )
          cases hb3 : decide (n > 1099511627776) with
          | true =>
            have q3 := of_decide_eq_true hb3
            rw [if_pos (.inr (.inr q3))] at hdig
            rw [hdig] at hnum
            (repeat' first
    | refine w_seq ?_ | refine w_rg ?_ | refine wo_nil ?_ | refine g_skU ?_ | refine g_skT ?_ | refine g_skF ?_
    | ((first | apply s_plain | apply s_void | apply s_guard | apply g_goT | apply g_goF); · simp only [go_sem, Nat.reduceEqDiff, Nat.reduceAdd, Nat.reduceLeDiff, g3, hb3]; (first | done | rfl))
    | ((first | apply g_T | apply g_F | apply g_gT | apply g_gF); · intro q1_; (first | intro q2_ | have q2_ := q1_); simp only [go_sem, Nat.reduceEqDiff, Nat.reduceAdd, Nat.reduceLeDiff, g3, hb3, q1_, q2_]; (first | done | rfl))
    | fail
    )
            (repeat' first
    | refine w_seq ?_ | refine w_rg ?_ | refine wo_nil ?_ | refine g_skU ?_ | refine g_skT ?_ | refine g_skF ?_
    | ((first | apply s_plain | apply s_void | apply s_guard | apply g_goT | apply g_goF); · simp only [go_sem, Nat.reduceEqDiff, Nat.reduceAdd, Nat.reduceLeDiff]; (first | done | rfl))
    | ((first | apply g_T | apply g_F | apply g_gT | apply g_gF); · intro q1_; (first | intro q2_ | have q2_ := q1_); simp only [go_sem, Nat.reduceEqDiff, Nat.reduceAdd, Nat.reduceLeDiff, q1_, q2_]; (first | done | rfl))
    | (apply w_condX; · simp only [go_sem, Nat.reduceEqDiff, Nat.reduceAdd, Nat.reduceLeDiff]; (first | done | rfl)); (first | refine wcd_T ?_ | refine wcd_F ?_)
    | refine w_skip ?_ | refine w_exit ?_ | refine w_ret ?_
    | fail
    )
            exact ⟨by first | exact .inr rfl | exact .inr trivial | exact .inl rfl, by simp only [go_sem, Nat.reduceEqDiff, Nat.reduceAdd, Nat.reduceLeDiff, retOf, resOf, hnum]; first | done | rfl⟩
          | false =>
            have q3 := of_decide_eq_false hb3
            rw [if_neg (by omega)] at hdig
            have w1 : IntKind.i64.wrap (10 * n) = 10 * n := by rw [IntKind.wrap_i64]; omega
            have w2 : IntKind.u8.wrap ((s[i].toNat : Int) - 48) = (s[i].toNat : Int) - 48 := by rw [IntKind.wrap_u8]; omega
            have w3 : IntKind.i64.wrap ((s[i].toNat : Int) - 48) = (s[i].toNat : Int) - 48 := by rw [IntKind.wrap_i64]; omega
            have w4 : IntKind.i64.wrap (10 * n + ((s[i].toNat : Int) - 48)) = 10 * n + ((s[i].toNat : Int) - 48) := by rw [IntKind.wrap_i64]; omega
            have w5 : IntKind.i64.wrap ((i : Int) + 1) = ((i + 1 : Nat) : Int) := by rw [IntKind.wrap_i64]; omega
            (repeat' first
    | refine w_seq ?_ | refine w_rg ?_ | refine wo_nil ?_ | refine g_skU ?_ | refine g_skT ?_ | refine g_skF ?_
    | ((first | apply s_plain | apply s_void | apply s_guard | apply g_goT | apply g_goF); · simp only [go_sem, Nat.reduceEqDiff, Nat.reduceAdd, Nat.reduceLeDiff, g3, hb3]; (first | done | rfl))
    | ((first | apply g_T | apply g_F | apply g_gT | apply g_gF); · intro q1_; (first | intro q2_ | have q2_ := q1_); simp only [go_sem, Nat.reduceEqDiff, Nat.reduceAdd, Nat.reduceLeDiff, g3, hb3, q1_, q2_]; (first | done | rfl))
    | fail
    )
            (repeat' first
    | refine w_seq ?_ | refine w_rg ?_ | refine wo_nil ?_ | refine g_skU ?_ | refine g_skT ?_ | refine g_skF ?_
    | ((first | apply s_plain | apply s_void | apply s_guard | apply g_goT | apply g_goF); · simp only [go_sem, Nat.reduceEqDiff, Nat.reduceAdd, Nat.reduceLeDiff]; (first | done | rfl))
    | ((first | apply g_T | apply g_F | apply g_gT | apply g_gF); · intro q1_; (first | intro q2_ | have q2_ := q1_); simp only [go_sem, Nat.reduceEqDiff, Nat.reduceAdd, Nat.reduceLeDiff, q1_, q2_]; (first | done | rfl))
    | (apply w_condX; · simp only [go_sem, Nat.reduceEqDiff, Nat.reduceAdd, Nat.reduceLeDiff]; (first | done | rfl)); (first | refine wcd_T ?_ | refine wcd_F ?_)
    | refine w_skip ?_ | refine w_exit ?_ | refine w_ret ?_
    | fail
    )
            (repeat' first
    | refine w_seq ?_ | refine w_rg ?_ | refine wo_nil ?_ | refine g_skU ?_ | refine g_skT ?_ | refine g_skF ?_
    | ((first | apply s_plain | apply s_void | apply s_guard | apply g_goT | apply g_goF); · simp only [go_sem, Nat.reduceEqDiff, Nat.reduceAdd, Nat.reduceLeDiff, g3, w1, h5, k0, e1, Int.toNat_natCast, hx, ba_data, ba_size, ba_toList, ba_extract, ba_append, List.toList_toArray, w2, w3, w4, w5]; (first | done | rfl))
    | ((first | apply g_T | apply g_F | apply g_gT | apply g_gF); · intro q1_; (first | intro q2_ | have q2_ := q1_); simp only [go_sem, Nat.reduceEqDiff, Nat.reduceAdd, Nat.reduceLeDiff, g3, w1, h5, k0, e1, Int.toNat_natCast, hx, ba_data, ba_size, ba_toList, ba_extract, ba_append, List.toList_toArray, w2, w3, w4, w5, q1_, q2_]; (first | done | rfl))
    | fail
    )
            exact ⟨s.length - (i + 1), by omega, i + 1, _, rfl, hil, by simp only [go_sem, Nat.reduceEqDiff, Nat.reduceAdd, Nat.reduceLeDiff], by simp only [go_sem, Nat.reduceEqDiff, Nat.reduceAdd, Nat.reduceLeDiff], by omega, by omega, hdig⟩
    · have hie : i = s.length := by have := of_decide_eq_false hc; omega
      subst hie
      rw [List.drop_length] at hdig
      rw [hdig] at hnum
      simp only [digR] at hnum
      have w1 : IntKind.i64.wrap (0 - n) = -n := by rw [IntKind.wrap_i64]; omega
      have hbe : ∀ m : Int, ((itoaS m).toList == s) = decide (Lib.itoa m = s) := by
        intro m
        rw [ByteArray.toList_eq, Bool.eq_iff_iff]; simp [itoaS]
      try simp only [if_true]
      cases hneg : isNeg s with
      | true =>
        rw [hneg] at ha hnum
        simp only [if_true] at ha hnum
        subst ha
        have h203 := a203 A (n := -n) (by omega) (by omega)
        have k4' : fr1 4 = .sc (.int .i64 1) := k4
        (repeat' first
    | refine w_seq ?_ | refine w_rg ?_ | refine wo_nil ?_ | refine g_skU ?_ | refine g_skT ?_ | refine g_skF ?_
    | ((first | apply s_plain | apply s_void | apply s_guard | apply g_goT | apply g_goF); · simp only [go_sem, Nat.reduceEqDiff, Nat.reduceAdd, Nat.reduceLeDiff, k4', beq_self_eq_true]; (first | done | rfl))
    | ((first | apply g_T | apply g_F | apply g_gT | apply g_gF); · intro q1_; (first | intro q2_ | have q2_ := q1_); simp only [go_sem, Nat.reduceEqDiff, Nat.reduceAdd, Nat.reduceLeDiff, k4', beq_self_eq_true, q1_, q2_]; (first | done | rfl))
    | (apply w_condX; · simp only [go_sem, Nat.reduceEqDiff, Nat.reduceAdd, Nat.reduceLeDiff, k4', beq_self_eq_true]; (first | done | rfl)); (first | refine wcd_T ?_ | refine wcd_F ?_)
    | refine w_skip ?_ | refine w_exit ?_ | refine w_ret ?_
    | fail
    )
        (repeat' first
    | refine w_seq ?_ | refine w_rg ?_ | refine wo_nil ?_ | refine g_skU ?_ | refine g_skT ?_ | refine g_skF ?_
    | ((first | apply s_plain | apply s_void | apply s_guard | apply g_goT | apply g_goF); · simp only [go_sem, Nat.reduceEqDiff, Nat.reduceAdd, Nat.reduceLeDiff, g3, w1, h203, k0, ba_data, ba_size, ba_toList, ba_extract, ba_append, List.toList_toArray]; (first | done | rfl))
    | ((first | apply g_T | apply g_F | apply g_gT | apply g_gF); · intro q1_; (first | intro q2_ | have q2_ := q1_); simp only [go_sem, Nat.reduceEqDiff, Nat.reduceAdd, Nat.reduceLeDiff, g3, w1, h203, k0, ba_data, ba_size, ba_toList, ba_extract, ba_append, List.toList_toArray, q1_, q2_]; (first | done | rfl))
    | fail
    )
        refine w_condB (b := !(decide (Lib.itoa (-n) = s))) (by simp only [go_sem, Nat.reduceEqDiff, Nat.reduceAdd, Nat.reduceLeDiff, ba_data, ba_size, ba_toList, ba_extract, ba_append, List.toList_toArray]; exact congrArg (fun b => PV.sc (.bool (!b))) (hbe (-n))) (fun hw => ?_) (fun hw => ?_)
        · rw [if_neg (by simpa using hw)] at hnum
          (repeat' first
    | refine w_seq ?_ | refine w_rg ?_ | refine wo_nil ?_ | refine g_skU ?_ | refine g_skT ?_ | refine g_skF ?_
    | ((first | apply s_plain | apply s_void | apply s_guard | apply g_goT | apply g_goF); · simp only [go_sem, Nat.reduceEqDiff, Nat.reduceAdd, Nat.reduceLeDiff]; (first | done | rfl))
    | ((first | apply g_T | apply g_F | apply g_gT | apply g_gF); · intro q1_; (first | intro q2_ | have q2_ := q1_); simp only [go_sem, Nat.reduceEqDiff, Nat.reduceAdd, Nat.reduceLeDiff, q1_, q2_]; (first | done | rfl))
    | (apply w_condX; · simp only [go_sem, Nat.reduceEqDiff, Nat.reduceAdd, Nat.reduceLeDiff]; (first | done | rfl)); (first | refine wcd_T ?_ | refine wcd_F ?_)
    | refine w_skip ?_ | refine w_exit ?_ | refine w_ret ?_
    | fail
    )
          exact ⟨by first | exact .inr rfl | exact .inr trivial | exact .inl rfl, by simp only [go_sem, Nat.reduceEqDiff, Nat.reduceAdd, Nat.reduceLeDiff, retOf, resOf, hnum]; first | done | rfl⟩
        · rw [if_pos (by simpa using hw)] at hnum
          (repeat' first
    | refine w_seq ?_ | refine w_rg ?_ | refine wo_nil ?_ | refine g_skU ?_ | refine g_skT ?_ | refine g_skF ?_
    | ((first | apply s_plain | apply s_void | apply s_guard | apply g_goT | apply g_goF); · simp only [go_sem, Nat.reduceEqDiff, Nat.reduceAdd, Nat.reduceLeDiff, g3]; (first | done | rfl))
    | ((first | apply g_T | apply g_F | apply g_gT | apply g_gF); · intro q1_; (first | intro q2_ | have q2_ := q1_); simp only [go_sem, Nat.reduceEqDiff, Nat.reduceAdd, Nat.reduceLeDiff, g3, q1_, q2_]; (first | done | rfl))
    | (apply w_condX; · simp only [go_sem, Nat.reduceEqDiff, Nat.reduceAdd, Nat.reduceLeDiff, g3]; (first | done | rfl)); (first | refine wcd_T ?_ | refine wcd_F ?_)
    | refine w_skip ?_ | refine w_exit ?_ | refine w_ret ?_
    | fail
    )
          exact ⟨by first | exact .inr rfl | exact .inr trivial | exact .inl rfl, by simp only [go_sem, Nat.reduceEqDiff, Nat.reduceAdd, Nat.reduceLeDiff, retOf, resOf, hnum]; first | done | rfl⟩
      | false =>
        rw [hneg] at ha hnum
        simp only [if_false, Bool.false_eq_true] at ha hnum
        subst ha
        have h203 := a203 A (n := n) (by omega) (by omega)
        have k4' : fr1 4 = .sc (.int .i64 0) := k4
        (repeat' first
    | refine w_seq ?_ | refine w_rg ?_ | refine wo_nil ?_ | refine g_skU ?_ | refine g_skT ?_ | refine g_skF ?_
    | ((first | apply s_plain | apply s_void | apply s_guard | apply g_goT | apply g_goF); · simp only [go_sem, Nat.reduceEqDiff, Nat.reduceAdd, Nat.reduceLeDiff, k4', show ((0 : Int) == 1) = false from rfl]; (first | done | rfl))
    | ((first | apply g_T | apply g_F | apply g_gT | apply g_gF); · intro q1_; (first | intro q2_ | have q2_ := q1_); simp only [go_sem, Nat.reduceEqDiff, Nat.reduceAdd, Nat.reduceLeDiff, k4', show ((0 : Int) == 1) = false from rfl, q1_, q2_]; (first | done | rfl))
    | (apply w_condX; · simp only [go_sem, Nat.reduceEqDiff, Nat.reduceAdd, Nat.reduceLeDiff, k4', show ((0 : Int) == 1) = false from rfl]; (first | done | rfl)); (first | refine wcd_T ?_ | refine wcd_F ?_)
    | refine w_skip ?_ | refine w_exit ?_ | refine w_ret ?_
    | fail
    )
        (repeat' first
    | refine w_seq ?_ | refine w_rg ?_ | refine wo_nil ?_ | refine g_skU ?_ | refine g_skT ?_ | refine g_skF ?_
    | ((first | apply s_plain | apply s_void | apply s_guard | apply g_goT | apply g_goF); · simp only [go_sem, Nat.reduceEqDiff, Nat.reduceAdd, Nat.reduceLeDiff, g3, w1, h203, k0, ba_data, ba_size, ba_toList, ba_extract, ba_append, List.toList_toArray]; (first | done | rfl))
    | ((first | apply g_T | apply g_F | apply g_gT | apply g_gF); · intro q1_; (first | intro q2_ | have q2_ := q1_); simp only [go_sem, Nat.reduceEqDiff, Nat.reduceAdd, Nat.reduceLeDiff, g3, w1, h203, k0, ba_data, ba_size, ba_toList, ba_extract, ba_append, List.toList_toArray, q1_, q2_]; (first | done | rfl))
    | fail
    )
        refine w_condB (b := !(decide (Lib.itoa (n) = s))) (by simp only [go_sem, Nat.reduceEqDiff, Nat.reduceAdd, Nat.reduceLeDiff, ba_data, ba_size, ba_toList, ba_extract, ba_append, List.toList_toArray]; exact congrArg (fun b => PV.sc (.bool (!b))) (hbe (n))) (fun hw => ?_) (fun hw => ?_)
        · rw [if_neg (by simpa using hw)] at hnum
          (repeat' first
    | refine w_seq ?_ | refine w_rg ?_ | refine wo_nil ?_ | refine g_skU ?_ | refine g_skT ?_ | refine g_skF ?_
    | ((first | apply s_plain | apply s_void | apply s_guard | apply g_goT | apply g_goF); · simp only [go_sem, Nat.reduceEqDiff, Nat.reduceAdd, Nat.reduceLeDiff]; (first | done | rfl))
    | ((first | apply g_T | apply g_F | apply g_gT | apply g_gF); · intro q1_; (first | intro q2_ | have q2_ := q1_); simp only [go_sem, Nat.reduceEqDiff, Nat.reduceAdd, Nat.reduceLeDiff, q1_, q2_]; (first | done | rfl))
    | (apply w_condX; · simp only [go_sem, Nat.reduceEqDiff, Nat.reduceAdd, Nat.reduceLeDiff]; (first | done | rfl)); (first | refine wcd_T ?_ | refine wcd_F ?_)
    | refine w_skip ?_ | refine w_exit ?_ | refine w_ret ?_
    | fail
    )
          exact ⟨by first | exact .inr rfl | exact .inr trivial | exact .inl rfl, by simp only [go_sem, Nat.reduceEqDiff, Nat.reduceAdd, Nat.reduceLeDiff, retOf, resOf, hnum]; first | done | rfl⟩
        · rw [if_pos (by simpa using hw)] at hnum
          (repeat' first
    | refine w_seq ?_ | refine w_rg ?_ | refine wo_nil ?_ | refine g_skU ?_ | refine g_skT ?_ | refine g_skF ?_
    | ((first | apply s_plain | apply s_void | apply s_guard | apply g_goT | apply g_goF); · simp only [go_sem, Nat.reduceEqDiff, Nat.reduceAdd, Nat.reduceLeDiff, g3]; (first | done | rfl))
    | ((first | apply g_T | apply g_F | apply g_gT | apply g_gF); · intro q1_; (first | intro q2_ | have q2_ := q1_); simp only [go_sem, Nat.reduceEqDiff, Nat.reduceAdd, Nat.reduceLeDiff, g3, q1_, q2_]; (first | done | rfl))
    | (apply w_condX; · simp only [go_sem, Nat.reduceEqDiff, Nat.reduceAdd, Nat.reduceLeDiff, g3]; (first | done | rfl)); (first | refine wcd_T ?_ | refine wcd_F ?_)
    | refine w_skip ?_ | refine w_exit ?_ | refine w_ret ?_
    | fail
    )
          exact ⟨by first | exact .inr rfl | exact .inr trivial | exact .inl rfl, by simp only [go_sem, Nat.reduceEqDiff, Nat.reduceAdd, Nat.reduceLeDiff, retOf, resOf, hnum]; first | done | rfl⟩
  · exact ⟨a, 0, rfl, hal, by simp only [go_sem, Nat.reduceEqDiff, Nat.reduceAdd, Nat.reduceLeDiff], by simp only [go_sem, Nat.reduceEqDiff, Nat.reduceAdd, Nat.reduceLeDiff, h3], by decide, by decide, rfl⟩
end

section
variable {env : Nat → Option Def} {fr : Fr} {σ σ' σ'' : St} {K : Fr → St → Prop} {Q : X → Fr → St → Prop} {p : PV} {bs : List UInt8}
def hAt (s : ByteArray) : Nat → Int
  | 0 => 0
  | j + 1 => if signT ((j : Int) + 1) = s then (j : Int) + 1 else hAt s j
theorem hAt_all (s : ByteArray) : hAt s 5 = howR s := by
  unfold howR
  by_cases h1 : s = ⟨#[62]⟩
  · subst h1; decide
  by_cases h2 : s = ⟨#[62, 61]⟩
  · subst h2; decide
  by_cases h3 : s = ⟨#[60]⟩
  · subst h3; decide
  by_cases h4 : s = ⟨#[60, 61]⟩
  · subst h4; decide
  by_cases h5 : s = ⟨#[61, 61]⟩
  · subst h5; decide
  have e1 : signT 1 = ⟨#[62]⟩ := rfl
  have e2 : signT 2 = ⟨#[62, 61]⟩ := rfl
  have e3 : signT 3 = ⟨#[60]⟩ := rfl
  have e4 : signT 4 = ⟨#[60, 61]⟩ := rfl
  have e5 : signT 5 = ⟨#[61, 61]⟩ := rfl
  show (if signT 5 = s then (5 : Int) else if signT 4 = s then 4 else if signT 3 = s then 3 else if signT 2 = s then 2 else if signT 1 = s then 1 else 0) = _
  rw [e1, e2, e3, e4, e5]
  simp only [h1, h2, h3, h4, h5, Ne.symm h1, Ne.symm h2, Ne.symm h3, Ne.symm h4, Ne.symm h5, if_false]
theorem parseR_held (s : List UInt8) : (parseR s).1.length ≤ 8 ∧ ∀ m ∈ (parseR s).1, m.1.size ≤ 64 ∧ m.2.size ≤ 64 := by
  cases h : (parseR s).2 with
  | true =>
    obtain ⟨hr, _⟩ := parseR_ok (s := s) (l := (parseR s).1) (by rw [← h])
    exact ⟨right_len hr, fun m hm => may_size ((right_iff.1 hr).1 m hm)⟩
  | false =>
    have e : (parseR s).1 = [] := by
      unfold parseR at h ⊢
      split
      · rfl
      · rename_i hne
        rw [if_neg hne] at h
        split
        · rename_i he
          rw [he] at h
          simp only at h
          split
          · rename_i hc; rw [if_pos hc] at h; cases h
          · rfl
        · rfl
    rw [e]
    exact ⟨by simp, fun m hm => by simp at hm⟩
theorem a196 (A : Has lha env) (C : Has lhc env) (L0 : Has ll0 env) (L : Has ll env) (M0 : Has lm0 env) (M : Has lm env) (I : Has lhi env)
    (h208 : ∀ s : List UInt8, s.length ≤ 1000000 → AV env 208 [txt s] = some (.tu [.sl (labs (parseR s).1), .sc (.bool (parseR s).2)]))
    {l : List ByteArray} (hn : l.length ≤ 1000) (hs : ∀ s ∈ l, s.size ≤ 1000) : AV env 196 [.sl (strs l)] = some (.tu [rule (readR l).1, .sc (.bool (readR l).2)]) := by
  have hll := strs_len l
  refine AV_wp (I (196, d196) (by simp [lhi])) rfl ?_
  by_cases h8 : l.length = 8
  · obtain ⟨q0, q1, q2, q3, q4, q5, q6, q7, rfl⟩ : ∃ q0 q1 q2 q3 q4 q5 q6 q7, l = [q0, q1, q2, q3, q4, q5, q6, q7] := ⟨_, _, _, _, _, _, _, _, list8 h8⟩
    have hz : ∀ q ∈ [q0, q1, q2, q3, q4, q5, q6, q7], q.data.toList.length ≤ 1000 := fun q hq => hs q hq
    have g3 := a209 A I (s := q3.data.toList) (by have := hz q3 (by simp); omega)
    have g4 := a209 A I (s := q4.data.toList) (by have := hz q4 (by simp); omega)
    have g5 := a209 A I (s := q5.data.toList) (by have := hz q5 (by simp); omega)
    have g6 := a209 A I (s := q6.data.toList) (by have := hz q6 (by simp); omega)
    have g7 := h208 q7.data.toList (by have := hz q7 (by simp); omega)
    rw [txt_eta] at g3 g4 g5 g6 g7
    obtain ⟨hp8, hps⟩ := parseR_held q7.data.toList
    have hread : readR [q0, q1, q2, q3, q4, q5, q6, q7] = if (parseR q7.data.toList).2 = true ∧ rightR (ruleD [q0, q1, q2, q3, q4, q5, q6, q7]) = true then (ruleD [q0, q1, q2, q3, q4, q5, q6, q7], true) else (emptyR, false) := by
      unfold readR
      simp only [h8, true_and]
      rfl
    have hfit : (ruleD [q0, q1, q2, q3, q4, q5, q6, q7]).Fits := ⟨small_of (hs q0 (by simp)) (by decide), small_of (hs q1 (by simp)) (by decide), (by show (parseR q7.data.toList).1.length ≤ _; omega), fun m hm => ⟨small_of (hps m hm).1 (by decide), small_of (hps m hm).2 (by decide)⟩⟩
    have g187 : AV env 187 [.agg [.sc (.string q0), .sc (.string q1), .sc (.int .i64 (howR q2)), .sc (.int .i64 (numR q3.data.toList)), .sc (.int .i64 (numR q4.data.toList)), .sc (.int .i64 (numR q5.data.toList)), .sc (.int .i64 (numR q6.data.toList)), .sl (labs (parseR q7.data.toList).1)]] = _ := a187 L0 L M0 M hfit
    have hrule : rule (ruleD [q0, q1, q2, q3, q4, q5, q6, q7]) = .agg [.sc (.string q0), .sc (.string q1), .sc (.int .i64 (howR q2)), .sc (.int .i64 (numR q3.data.toList)), .sc (.int .i64 (numR q4.data.toList)), .sc (.int .i64 (numR q5.data.toList)), .sc (.int .i64 (numR q6.data.toList)), .sl (labs (parseR q7.data.toList).1)] := rfl
    rw [hread]
    generalize ruleD [q0, q1, q2, q3, q4, q5, q6, q7] = R at *
    rw [← hAt_all] at g187 hrule
    generalize numR q3.data.toList = n3 at *
    generalize numR q4.data.toList = n4 at *
    generalize numR q5.data.toList = n5 at *
    generalize numR q6.data.toList = n6 at *
    generalize labs (parseR q7.data.toList).1 = ls at *
    generalize (parseR q7.data.toList).2 = ok at *
    simp only [strs, List.map_cons, List.map_nil] at ⊢
    (repeat' first
    | refine w_seq ?_ | refine w_rg ?_ | refine wo_nil ?_ | refine g_skU ?_ | refine g_skT ?_ | refine g_skF ?_
    | ((first | apply s_plain | apply s_void | apply s_guard | apply g_goT | apply g_goF); · simp only [go_sem, Nat.reduceEqDiff, Nat.reduceAdd, Nat.reduceLeDiff, bne_self_eq_false]; (first | done | rfl))
    | ((first | apply g_T | apply g_F | apply g_gT | apply g_gF); · intro q1_; (first | intro q2_ | have q2_ := q1_); simp only [go_sem, Nat.reduceEqDiff, Nat.reduceAdd, Nat.reduceLeDiff, bne_self_eq_false, q1_, q2_]; (first | done | rfl))
    | (apply w_condX; · simp only [go_sem, Nat.reduceEqDiff, Nat.reduceAdd, Nat.reduceLeDiff, bne_self_eq_false]; (first | done | rfl)); (first | refine wcd_T ?_ | refine wcd_F ?_)
    | refine w_skip ?_ | refine w_exit ?_ | refine w_ret ?_
    | fail
    )
    (repeat' first
    | refine w_seq ?_ | refine w_rg ?_ | refine wo_nil ?_ | refine g_skU ?_ | refine g_skT ?_ | refine g_skF ?_
    | ((first | apply s_plain | apply s_void | apply s_guard | apply g_goT | apply g_goF); · simp only [go_sem, Nat.reduceEqDiff, Nat.reduceAdd, Nat.reduceLeDiff, g7]; (first | done | rfl))
    | ((first | apply g_T | apply g_F | apply g_gT | apply g_gF); · intro q1_; (first | intro q2_ | have q2_ := q1_); simp only [go_sem, Nat.reduceEqDiff, Nat.reduceAdd, Nat.reduceLeDiff, g7, q1_, q2_]; (first | done | rfl))
    | fail
    )
    refine wos_cut (fun fr σ => fr 0 = .sl [.sc (.string q0), .sc (.string q1), .sc (.string q2), .sc (.string q3), .sc (.string q4), .sc (.string q5), .sc (.string q6), .sc (.string q7)] ∧ fr 2 = .bx 2000002 0 8 0 0 ∧ fr 4 = .sl ls ∧ fr 5 = .sc (.bool ok) ∧ fr 21 = .sc (.string q0) ∧ fr 24 = .sc (.string q1) ∧ fr 27 = .sc (.string q3) ∧ σ.m 2000002 0 = some ⟨8, [.agg [.sc (.string ⟨#[]⟩), .sc (.string ⟨#[]⟩), .sc (.int .i64 0), .sc (.int .i64 0), .sc (.int .i64 0), .sc (.int .i64 0), .sc (.int .i64 0), .em]], true, true⟩ ∧ σ.c 2000006 = 0) ?_ ?_
    · refine ⟨?_, ?_, ?_, ?_, ?_, ?_, ?_, ?_, ?_⟩ <;> simp only [go_sem, Nat.reduceEqDiff, Nat.reduceAdd, Nat.reduceLeDiff]
    rintro fr σ ⟨f0, f2, f4, f5, f21, f24, f27, m2, c6⟩
    (repeat' first
    | refine w_seq ?_ | refine w_rg ?_ | refine wo_nil ?_ | refine g_skU ?_ | refine g_skT ?_ | refine g_skF ?_
    | ((first | apply s_plain | apply s_void | apply s_guard | apply g_goT | apply g_goF); · simp only [go_sem, Nat.reduceEqDiff, Nat.reduceAdd, Nat.reduceLeDiff, f0, f27, g3, g4, g5, g6, List.getElem?_cons_zero, List.getElem?_cons_succ]; (first | done | rfl))
    | ((first | apply g_T | apply g_F | apply g_gT | apply g_gF); · intro q1_; (first | intro q2_ | have q2_ := q1_); simp only [go_sem, Nat.reduceEqDiff, Nat.reduceAdd, Nat.reduceLeDiff, f0, f27, g3, g4, g5, g6, List.getElem?_cons_zero, List.getElem?_cons_succ, q1_, q2_]; (first | done | rfl))
    | fail
    )
    (repeat' first
    | refine w_seq ?_ | refine w_rg ?_ | refine wo_nil ?_ | refine g_skU ?_ | refine g_skT ?_ | refine g_skF ?_
    | ((first | apply s_plain | apply s_void | apply s_guard | apply g_goT | apply g_goF); · simp only [go_sem, Nat.reduceEqDiff, Nat.reduceAdd, Nat.reduceLeDiff, f4, f21, f24, c6, fillP, splice, List.take_succ_cons, List.drop_succ_cons, List.modify_zero_cons, List.modify_cons]; (first | done | rfl))
    | ((first | apply g_T | apply g_F | apply g_gT | apply g_gF); · intro q1_; (first | intro q2_ | have q2_ := q1_); simp only [go_sem, Nat.reduceEqDiff, Nat.reduceAdd, Nat.reduceLeDiff, f4, f21, f24, c6, fillP, splice, List.take_succ_cons, List.drop_succ_cons, List.modify_zero_cons, List.modify_cons, q1_, q2_]; (first | done | rfl))
    | fail
    )
    refine w_block (w_loopF (fun m fr σ => ∃ j : Nat, m = 5 - j ∧ j ≤ 5 ∧ fr 7 = .sc (.int .i64 ((j : Int) + 1)) ∧ σ.m 2000002 0 = some ⟨8, [.agg [.sc (.string ⟨#[]⟩), .sc (.string ⟨#[]⟩), .sc (.int .i64 0), .sc (.int .i64 0), .sc (.int .i64 0), .sc (.int .i64 0), .sc (.int .i64 0), .em]], true, true⟩ ∧ σ.m 2000006 0 = some ⟨8, [.agg [.sc (.string q0), .sc (.string q1), .sc (.int .i64 (hAt q2 j)), .sc (.int .i64 n3), .sc (.int .i64 n4), .sc (.int .i64 n5), .sc (.int .i64 n6), .sl ls]], true, true⟩) ?_ 5 ?_)
    · rintro m fr1 σ1 ⟨j, rfl, hj, g7', m2', m6'⟩ hfr
      have k0 := hfr 0 rfl
      have k2 := hfr 2 rfl
      have k5 := hfr 5 rfl
      have k6 := hfr 6 rfl
      simp only [go_sem, Nat.reduceEqDiff, Nat.reduceAdd, Nat.reduceLeDiff, f0] at k0
      simp only [go_sem, Nat.reduceEqDiff, Nat.reduceAdd, Nat.reduceLeDiff, f2] at k2
      simp only [go_sem, Nat.reduceEqDiff, Nat.reduceAdd, Nat.reduceLeDiff, f5] at k5
      simp only [go_sem, Nat.reduceEqDiff, Nat.reduceAdd, Nat.reduceLeDiff, c6] at k6
      (repeat' first
    | refine w_seq ?_ | refine w_rg ?_ | refine wo_nil ?_ | refine g_skU ?_ | refine g_skT ?_ | refine g_skF ?_
    | ((first | apply s_plain | apply s_void | apply s_guard | apply g_goT | apply g_goF); · simp only [go_sem, Nat.reduceEqDiff, Nat.reduceAdd, Nat.reduceLeDiff, g7']; (first | done | rfl))
    | ((first | apply g_T | apply g_F | apply g_gT | apply g_gF); · intro q1_; (first | intro q2_ | have q2_ := q1_); simp only [go_sem, Nat.reduceEqDiff, Nat.reduceAdd, Nat.reduceLeDiff, g7', q1_, q2_]; (first | done | rfl))
    | fail
    )
      refine w_condB (b := decide ((j : Int) + 1 < 6)) (by simp only [go_sem, Nat.reduceEqDiff, Nat.reduceAdd, Nat.reduceLeDiff]; first | done | rfl) (fun hc => ?_) (fun hc => ?_)
      · have hj5 : j < 5 := by have := of_decide_eq_true hc; omega
        have g210 := a210 C (how := (j : Int) + 1) (by omega)
        have w1 : IntKind.i64.wrap ((j : Int) + 1 + 1) = ((j + 1 : Nat) : Int) + 1 := by rw [IntKind.wrap_i64]; omega
        (repeat' first
    | refine w_seq ?_ | refine w_rg ?_ | refine wo_nil ?_ | refine g_skU ?_ | refine g_skT ?_ | refine g_skF ?_
    | ((first | apply s_plain | apply s_void | apply s_guard | apply g_goT | apply g_goF); · simp only [go_sem, Nat.reduceEqDiff, Nat.reduceAdd, Nat.reduceLeDiff]; (first | done | rfl))
    | ((first | apply g_T | apply g_F | apply g_gT | apply g_gF); · intro q1_; (first | intro q2_ | have q2_ := q1_); simp only [go_sem, Nat.reduceEqDiff, Nat.reduceAdd, Nat.reduceLeDiff, q1_, q2_]; (first | done | rfl))
    | (apply w_condX; · simp only [go_sem, Nat.reduceEqDiff, Nat.reduceAdd, Nat.reduceLeDiff]; (first | done | rfl)); (first | refine wcd_T ?_ | refine wcd_F ?_)
    | refine w_skip ?_ | refine w_exit ?_ | refine w_ret ?_
    | fail
    )
        refine w_block ?_
        (repeat' first
    | refine w_seq ?_ | refine w_rg ?_ | refine wo_nil ?_ | refine g_skU ?_ | refine g_skT ?_ | refine g_skF ?_
    | ((first | apply s_plain | apply s_void | apply s_guard | apply g_goT | apply g_goF); · simp only [go_sem, Nat.reduceEqDiff, Nat.reduceAdd, Nat.reduceLeDiff, g7', g210, k0, List.getElem?_cons_zero, List.getElem?_cons_succ, ba_beq]; (first | done | rfl))
    | ((first | apply g_T | apply g_F | apply g_gT | apply g_gF); · intro q1_; (first | intro q2_ | have q2_ := q1_); simp only [go_sem, Nat.reduceEqDiff, Nat.reduceAdd, Nat.reduceLeDiff, g7', g210, k0, List.getElem?_cons_zero, List.getElem?_cons_succ, ba_beq, q1_, q2_]; (first | done | rfl))
    | fail
    )
        refine w_condB (b := decide (signT ((j : Int) + 1) = q2)) (by simp only [go_sem, Nat.reduceEqDiff, Nat.reduceAdd, Nat.reduceLeDiff]; first | done | rfl) (fun hd => ?_) (fun hd => ?_)
        · have e : hAt q2 (j + 1) = (j : Int) + 1 := by
            show (if _ then _ else _) = _
            rw [if_pos (of_decide_eq_true hd)]
          (repeat' first
    | refine w_seq ?_ | refine w_rg ?_ | refine wo_nil ?_ | refine g_skU ?_ | refine g_skT ?_ | refine g_skF ?_
    | ((first | apply s_plain | apply s_void | apply s_guard | apply g_goT | apply g_goF); · simp only [go_sem, Nat.reduceEqDiff, Nat.reduceAdd, Nat.reduceLeDiff, g7', k6, m6', splice, List.take_succ_cons, List.drop_succ_cons, List.modify_zero_cons, List.modify_cons, w1]; (first | done | rfl))
    | ((first | apply g_T | apply g_F | apply g_gT | apply g_gF); · intro q1_; (first | intro q2_ | have q2_ := q1_); simp only [go_sem, Nat.reduceEqDiff, Nat.reduceAdd, Nat.reduceLeDiff, g7', k6, m6', splice, List.take_succ_cons, List.drop_succ_cons, List.modify_zero_cons, List.modify_cons, w1, q1_, q2_]; (first | done | rfl))
    | (apply w_condX; · simp only [go_sem, Nat.reduceEqDiff, Nat.reduceAdd, Nat.reduceLeDiff, g7', k6, m6', splice, List.take_succ_cons, List.drop_succ_cons, List.modify_zero_cons, List.modify_cons, w1]; (first | done | rfl)); (first | refine wcd_T ?_ | refine wcd_F ?_)
    | refine w_skip ?_ | refine w_exit ?_ | refine w_ret ?_
    | fail
    )
          exact ⟨5 - (j + 1), by omega, j + 1, rfl, hj5, by simp only [go_sem, Nat.reduceEqDiff, Nat.reduceAdd, Nat.reduceLeDiff, w1], by simp only [go_sem, Nat.reduceEqDiff, Nat.reduceAdd, Nat.reduceLeDiff, m2'], by simp only [go_sem, Nat.reduceEqDiff, Nat.reduceAdd, Nat.reduceLeDiff, k6, m6', splice, List.take_succ_cons, List.drop_succ_cons, List.modify_zero_cons, List.modify_cons, e]⟩
        · have e : hAt q2 (j + 1) = hAt q2 j := by
            show (if _ then _ else _) = _
            rw [if_neg (of_decide_eq_false hd)]
          (repeat' first
    | refine w_seq ?_ | refine w_rg ?_ | refine wo_nil ?_ | refine g_skU ?_ | refine g_skT ?_ | refine g_skF ?_
    | ((first | apply s_plain | apply s_void | apply s_guard | apply g_goT | apply g_goF); · simp only [go_sem, Nat.reduceEqDiff, Nat.reduceAdd, Nat.reduceLeDiff, g7', w1]; (first | done | rfl))
    | ((first | apply g_T | apply g_F | apply g_gT | apply g_gF); · intro q1_; (first | intro q2_ | have q2_ := q1_); simp only [go_sem, Nat.reduceEqDiff, Nat.reduceAdd, Nat.reduceLeDiff, g7', w1, q1_, q2_]; (first | done | rfl))
    | (apply w_condX; · simp only [go_sem, Nat.reduceEqDiff, Nat.reduceAdd, Nat.reduceLeDiff, g7', w1]; (first | done | rfl)); (first | refine wcd_T ?_ | refine wcd_F ?_)
    | refine w_skip ?_ | refine w_exit ?_ | refine w_ret ?_
    | fail
    )
          exact ⟨5 - (j + 1), by omega, j + 1, rfl, hj5, by simp only [go_sem, Nat.reduceEqDiff, Nat.reduceAdd, Nat.reduceLeDiff, w1], by simp only [go_sem, Nat.reduceEqDiff, Nat.reduceAdd, Nat.reduceLeDiff, m2'], by simp only [go_sem, Nat.reduceEqDiff, Nat.reduceAdd, Nat.reduceLeDiff, m6', e]⟩
      · have hje : j = 5 := by have := of_decide_eq_false hc; omega
        subst hje
        (repeat' first
    | refine w_seq ?_ | refine w_rg ?_ | refine wo_nil ?_ | refine g_skU ?_ | refine g_skT ?_ | refine g_skF ?_
    | ((first | apply s_plain | apply s_void | apply s_guard | apply g_goT | apply g_goF); · simp only [go_sem, Nat.reduceEqDiff, Nat.reduceAdd, Nat.reduceLeDiff]; (first | done | rfl))
    | ((first | apply g_T | apply g_F | apply g_gT | apply g_gF); · intro q1_; (first | intro q2_ | have q2_ := q1_); simp only [go_sem, Nat.reduceEqDiff, Nat.reduceAdd, Nat.reduceLeDiff, q1_, q2_]; (first | done | rfl))
    | (apply w_condX; · simp only [go_sem, Nat.reduceEqDiff, Nat.reduceAdd, Nat.reduceLeDiff]; (first | done | rfl)); (first | refine wcd_T ?_ | refine wcd_F ?_)
    | refine w_skip ?_ | refine w_exit ?_ | refine w_ret ?_
    | fail
    )
        (repeat' first
    | refine w_seq ?_ | refine w_rg ?_ | refine wo_nil ?_ | refine g_skU ?_ | refine g_skT ?_ | refine g_skF ?_
    | ((first | apply s_plain | apply s_void | apply s_guard | apply g_goT | apply g_goF); · simp only [go_sem, Nat.reduceEqDiff, Nat.reduceAdd, Nat.reduceLeDiff, k5]; (first | done | rfl))
    | ((first | apply g_T | apply g_F | apply g_gT | apply g_gF); · intro q1_; (first | intro q2_ | have q2_ := q1_); simp only [go_sem, Nat.reduceEqDiff, Nat.reduceAdd, Nat.reduceLeDiff, k5, q1_, q2_]; (first | done | rfl))
    | fail
    )
        cases ok with
        | false =>
          rw [if_neg (fun h => by cases h.1)]
          (repeat' first
    | refine w_seq ?_ | refine w_rg ?_ | refine wo_nil ?_ | refine g_skU ?_ | refine g_skT ?_ | refine g_skF ?_
    | ((first | apply s_plain | apply s_void | apply s_guard | apply g_goT | apply g_goF); · simp only [go_sem, Nat.reduceEqDiff, Nat.reduceAdd, Nat.reduceLeDiff]; (first | done | rfl))
    | ((first | apply g_T | apply g_F | apply g_gT | apply g_gF); · intro q1_; (first | intro q2_ | have q2_ := q1_); simp only [go_sem, Nat.reduceEqDiff, Nat.reduceAdd, Nat.reduceLeDiff, q1_, q2_]; (first | done | rfl))
    | fail
    )
          (repeat' first
    | refine w_seq ?_ | refine w_rg ?_ | refine wo_nil ?_ | refine g_skU ?_ | refine g_skT ?_ | refine g_skF ?_
    | ((first | apply s_plain | apply s_void | apply s_guard | apply g_goT | apply g_goF); · simp only [go_sem, Nat.reduceEqDiff, Nat.reduceAdd, Nat.reduceLeDiff]; (first | done | rfl))
    | ((first | apply g_T | apply g_F | apply g_gT | apply g_gF); · intro q1_; (first | intro q2_ | have q2_ := q1_); simp only [go_sem, Nat.reduceEqDiff, Nat.reduceAdd, Nat.reduceLeDiff, q1_, q2_]; (first | done | rfl))
    | (apply w_condX; · simp only [go_sem, Nat.reduceEqDiff, Nat.reduceAdd, Nat.reduceLeDiff]; (first | done | rfl)); (first | refine wcd_T ?_ | refine wcd_F ?_)
    | refine w_skip ?_ | refine w_exit ?_ | refine w_ret ?_
    | fail
    )
          (repeat' first
    | refine w_seq ?_ | refine w_rg ?_ | refine wo_nil ?_ | refine g_skU ?_ | refine g_skT ?_ | refine g_skF ?_
    | ((first | apply s_plain | apply s_void | apply s_guard | apply g_goT | apply g_goF); · simp only [go_sem, Nat.reduceEqDiff, Nat.reduceAdd, Nat.reduceLeDiff, k2, m2']; (first | done | rfl))
    | ((first | apply g_T | apply g_F | apply g_gT | apply g_gF); · intro q1_; (first | intro q2_ | have q2_ := q1_); simp only [go_sem, Nat.reduceEqDiff, Nat.reduceAdd, Nat.reduceLeDiff, k2, m2', q1_, q2_]; (first | done | rfl))
    | (apply w_condX; · simp only [go_sem, Nat.reduceEqDiff, Nat.reduceAdd, Nat.reduceLeDiff, k2, m2']; (first | done | rfl)); (first | refine wcd_T ?_ | refine wcd_F ?_)
    | refine w_skip ?_ | refine w_exit ?_ | refine w_ret ?_
    | fail
    )
          refine ⟨.inr rfl, ?_⟩
          simp only [go_sem, Nat.reduceEqDiff, Nat.reduceAdd, Nat.reduceLeDiff, retOf, resOf, k2, splice, List.take_succ_cons, List.drop_succ_cons, List.modify_zero_cons, List.modify_cons]
          rfl
        | true =>
          (repeat' first
    | refine w_seq ?_ | refine w_rg ?_ | refine wo_nil ?_ | refine g_skU ?_ | refine g_skT ?_ | refine g_skF ?_
    | ((first | apply s_plain | apply s_void | apply s_guard | apply g_goT | apply g_goF); · simp only [go_sem, Nat.reduceEqDiff, Nat.reduceAdd, Nat.reduceLeDiff, k6, m6', g187]; (first | done | rfl))
    | ((first | apply g_T | apply g_F | apply g_gT | apply g_gF); · intro q1_; (first | intro q2_ | have q2_ := q1_); simp only [go_sem, Nat.reduceEqDiff, Nat.reduceAdd, Nat.reduceLeDiff, k6, m6', g187, q1_, q2_]; (first | done | rfl))
    | fail
    )
          cases hr : rightR R with
          | false =>
            rw [if_neg (fun h => by cases h.2)]
            (repeat' first
    | refine w_seq ?_ | refine w_rg ?_ | refine wo_nil ?_ | refine g_skU ?_ | refine g_skT ?_ | refine g_skF ?_
    | ((first | apply s_plain | apply s_void | apply s_guard | apply g_goT | apply g_goF); · simp only [go_sem, Nat.reduceEqDiff, Nat.reduceAdd, Nat.reduceLeDiff]; (first | done | rfl))
    | ((first | apply g_T | apply g_F | apply g_gT | apply g_gF); · intro q1_; (first | intro q2_ | have q2_ := q1_); simp only [go_sem, Nat.reduceEqDiff, Nat.reduceAdd, Nat.reduceLeDiff, q1_, q2_]; (first | done | rfl))
    | (apply w_condX; · simp only [go_sem, Nat.reduceEqDiff, Nat.reduceAdd, Nat.reduceLeDiff]; (first | done | rfl)); (first | refine wcd_T ?_ | refine wcd_F ?_)
    | refine w_skip ?_ | refine w_exit ?_ | refine w_ret ?_
    | fail
    )
            (repeat' first
    | refine w_seq ?_ | refine w_rg ?_ | refine wo_nil ?_ | refine g_skU ?_ | refine g_skT ?_ | refine g_skF ?_
    | ((first | apply s_plain | apply s_void | apply s_guard | apply g_goT | apply g_goF); · simp only [go_sem, Nat.reduceEqDiff, Nat.reduceAdd, Nat.reduceLeDiff, k2, m2']; (first | done | rfl))
    | ((first | apply g_T | apply g_F | apply g_gT | apply g_gF); · intro q1_; (first | intro q2_ | have q2_ := q1_); simp only [go_sem, Nat.reduceEqDiff, Nat.reduceAdd, Nat.reduceLeDiff, k2, m2', q1_, q2_]; (first | done | rfl))
    | (apply w_condX; · simp only [go_sem, Nat.reduceEqDiff, Nat.reduceAdd, Nat.reduceLeDiff, k2, m2']; (first | done | rfl)); (first | refine wcd_T ?_ | refine wcd_F ?_)
    | refine w_skip ?_ | refine w_exit ?_ | refine w_ret ?_
    | fail
    )
            refine ⟨.inr rfl, ?_⟩
            simp only [go_sem, Nat.reduceEqDiff, Nat.reduceAdd, Nat.reduceLeDiff, retOf, resOf, k2, splice, List.take_succ_cons, List.drop_succ_cons, List.modify_zero_cons, List.modify_cons]
            rfl
          | true =>
            rw [if_pos ⟨rfl, rfl⟩]
            (repeat' first
    | refine w_seq ?_ | refine w_rg ?_ | refine wo_nil ?_ | refine g_skU ?_ | refine g_skT ?_ | refine g_skF ?_
    | ((first | apply s_plain | apply s_void | apply s_guard | apply g_goT | apply g_goF); · simp only [go_sem, Nat.reduceEqDiff, Nat.reduceAdd, Nat.reduceLeDiff]; (first | done | rfl))
    | ((first | apply g_T | apply g_F | apply g_gT | apply g_gF); · intro q1_; (first | intro q2_ | have q2_ := q1_); simp only [go_sem, Nat.reduceEqDiff, Nat.reduceAdd, Nat.reduceLeDiff, q1_, q2_]; (first | done | rfl))
    | (apply w_condX; · simp only [go_sem, Nat.reduceEqDiff, Nat.reduceAdd, Nat.reduceLeDiff]; (first | done | rfl)); (first | refine wcd_T ?_ | refine wcd_F ?_)
    | refine w_skip ?_ | refine w_exit ?_ | refine w_ret ?_
    | fail
    )
            (repeat' first
    | refine w_seq ?_ | refine w_rg ?_ | refine wo_nil ?_ | refine g_skU ?_ | refine g_skT ?_ | refine g_skF ?_
    | ((first | apply s_plain | apply s_void | apply s_guard | apply g_goT | apply g_goF); · simp only [go_sem, Nat.reduceEqDiff, Nat.reduceAdd, Nat.reduceLeDiff, k2, m2', k6, m6']; (first | done | rfl))
    | ((first | apply g_T | apply g_F | apply g_gT | apply g_gF); · intro q1_; (first | intro q2_ | have q2_ := q1_); simp only [go_sem, Nat.reduceEqDiff, Nat.reduceAdd, Nat.reduceLeDiff, k2, m2', k6, m6', q1_, q2_]; (first | done | rfl))
    | (apply w_condX; · simp only [go_sem, Nat.reduceEqDiff, Nat.reduceAdd, Nat.reduceLeDiff, k2, m2', k6, m6']; (first | done | rfl)); (first | refine wcd_T ?_ | refine wcd_F ?_)
    | refine w_skip ?_ | refine w_exit ?_ | refine w_ret ?_
    | fail
    )
            refine ⟨.inr rfl, ?_⟩
            simp only [go_sem, Nat.reduceEqDiff, Nat.reduceAdd, Nat.reduceLeDiff, retOf, resOf, k2, splice, List.take_succ_cons, List.drop_succ_cons, List.modify_zero_cons, List.modify_cons, hrule]
    · exact ⟨0, rfl, by omega, by simp only [go_sem, Nat.reduceEqDiff, Nat.reduceAdd, Nat.reduceLeDiff]; rfl, by simp only [go_sem, Nat.reduceEqDiff, Nat.reduceAdd, Nat.reduceLeDiff, m2], by simp only [go_sem, Nat.reduceEqDiff, Nat.reduceAdd, Nat.reduceLeDiff, c6, splice, List.take_succ_cons, List.drop_succ_cons, List.modify_zero_cons, List.modify_cons]; rfl⟩
  · have hc : ((l.length : Int) != 8) = true := by simp; omega
    have hrd : readR l = (emptyR, false) := by unfold readR; rw [if_neg (fun h => h8 h.1)]
    rw [hrd]
    (repeat' first
    | refine w_seq ?_ | refine w_rg ?_ | refine wo_nil ?_ | refine g_skU ?_ | refine g_skT ?_ | refine g_skF ?_
    | ((first | apply s_plain | apply s_void | apply s_guard | apply g_goT | apply g_goF); · simp only [go_sem, Nat.reduceEqDiff, Nat.reduceAdd, Nat.reduceLeDiff, hll, hc]; (first | done | rfl))
    | ((first | apply g_T | apply g_F | apply g_gT | apply g_gF); · intro q1_; (first | intro q2_ | have q2_ := q1_); simp only [go_sem, Nat.reduceEqDiff, Nat.reduceAdd, Nat.reduceLeDiff, hll, hc, q1_, q2_]; (first | done | rfl))
    | (apply w_condX; · simp only [go_sem, Nat.reduceEqDiff, Nat.reduceAdd, Nat.reduceLeDiff, hll, hc]; (first | done | rfl)); (first | refine wcd_T ?_ | refine wcd_F ?_)
    | refine w_skip ?_ | refine w_exit ?_ | refine w_ret ?_
    | fail
    )
    exact ⟨by first | exact .inr rfl | exact .inr trivial | exact .inl rfl, by simp only [go_sem, Nat.reduceEqDiff, Nat.reduceAdd, Nat.reduceLeDiff, retOf, resOf, rule, emptyR, labs]; first | done | rfl⟩
end

def d185 : Def := (.code 2 [.tmp 4] (.seq (.rg false [⟨.some 2, .none, .box (.t 0)⟩, ⟨.some 4, .none, .mv (.c (.bool false))⟩]) (.seq (.rg false [⟨.some 11, .none, .ld (.some 8) (.t 2)⟩, ⟨.some 12, .none, .call 104 .pure [.t 11]⟩, ⟨.some 13, .none, .mv (.t 1)⟩, ⟨.some 14, .none, .call 194 .pure [.t 13]⟩, ⟨.none, .none, .st 8 (.t 2) (.t 12)⟩, ⟨.some 1, .none, .mv (.t 14)⟩]) (.seq (.rg false [⟨.some 16, .none, .ld (.some 8) (.t 2)⟩, ⟨.some 17, .none, .call 193 .pure [.t 16]⟩, ⟨.some 15, .none, .mv (.t 17)⟩, ⟨.some 18, .none, .ext (.t 15) 0⟩, ⟨.some 19, .none, .ext (.t 15) 1⟩, ⟨.some 5, .none, .mv (.t 18)⟩, ⟨.some 6, .none, .mv (.t 19)⟩]) (.seq (.rg false [⟨.some 21, .none, .mv (.t 1)⟩, ⟨.some 22, .none, .call 195 .pure [.t 21]⟩, ⟨.some 20, .none, .mv (.t 22)⟩, ⟨.some 23, .none, .ext (.t 20) 0⟩, ⟨.some 24, .none, .ext (.t 20) 1⟩, ⟨.some 7, .none, .box (.c (.agg #[.string ⟨#[]⟩, .string ⟨#[]⟩, .int .i64 0, .int .i64 0, .int .i64 0, .int .i64 0, .int .i64 0, .slice .none 0 0]))⟩, ⟨.none, .none, .st 8 (.t 7) (.t 23)⟩, ⟨.some 8, .none, .mv (.t 24)⟩]) (.seq (.rg false [⟨.some 26, .none, .mv (.t 1)⟩, ⟨.some 27, .none, .call 196 .pure [.t 26]⟩, ⟨.some 25, .none, .mv (.t 27)⟩, ⟨.some 28, .none, .ext (.t 25) 0⟩, ⟨.some 29, .none, .ext (.t 25) 1⟩, ⟨.some 9, .none, .box (.c (.agg #[.string ⟨#[]⟩, .string ⟨#[]⟩, .int .i64 0, .int .i64 0, .int .i64 0, .int .i64 0, .int .i64 0, .slice .none 0 0]))⟩, ⟨.none, .none, .st 8 (.t 9) (.t 28)⟩, ⟨.some 10, .none, .mv (.t 29)⟩]) (.seq (.seq (.rg false [⟨.some 30, .none, .mv (.t 10)⟩, ⟨.some 31, .none, .un .not (.t 30)⟩, ⟨.some 32, .none, .mv (.t 31)⟩, ⟨.some 33, .some (32, true), .mv (.t 8)⟩, ⟨.some 34, .some (32, true), .bin .neq (.t 33) (.c (.int .i64 6))⟩, ⟨.some 35, .some (32, true), .mv (.t 34)⟩, ⟨.some 36, .some (35, false), .ld (.some 8) (.t 7)⟩, ⟨.some 37, .some (35, false), .build (.agg #[.string ⟨#[]⟩, .string ⟨#[]⟩, .int .i64 0, .int .i64 0, .int .i64 0, .int .i64 0, .int .i64 0, .slice .none 0 0]) []⟩, ⟨.some 38, .some (35, false), .call 189 .pure [.t 36, .t 37]⟩, ⟨.some 39, .some (35, false), .un .not (.t 38)⟩, ⟨.some 40, .some (32, true), .pick (.t 35) (.c (.bool true)) (.t 39)⟩, ⟨.some 41, .none, .pick (.t 32) (.t 40) (.c (.bool false))⟩, ⟨.some 42, .none, .mv (.t 41)⟩, ⟨.some 43, .some (42, false), .mv (.t 10)⟩, ⟨.some 44, .some (42, false), .mv (.t 43)⟩, ⟨.some 45, .some (44, true), .mv (.t 8)⟩, ⟨.some 46, .some (44, true), .bin .neq (.t 45) (.c (.int .i64 0))⟩, ⟨.some 47, .some (44, true), .mv (.t 46)⟩, ⟨.some 48, .some (47, false), .ld (.some 8) (.t 7)⟩, ⟨.some 49, .some (47, false), .ld (.some 8) (.t 9)⟩, ⟨.some 50, .some (47, false), .call 189 .pure [.t 48, .t 49]⟩, ⟨.some 51, .some (47, false), .un .not (.t 50)⟩, ⟨.some 52, .some (44, true), .pick (.t 47) (.c (.bool true)) (.t 51)⟩, ⟨.some 53, .some (42, false), .pick (.t 44) (.t 52) (.c (.bool false))⟩, ⟨.some 54, .none, .pick (.t 42) (.c (.bool true)) (.t 53)⟩, ⟨.some 55, .none, .mv (.t 54)⟩, ⟨.some 56, .some (55, false), .call 106 .pure []⟩, ⟨.some 57, .some (55, false), .un .not (.t 56)⟩, ⟨.some 58, .none, .pick (.t 55) (.c (.bool true)) (.t 57)⟩]) (.cond (.t 58) (.seq (.rg false [⟨.some 4, .none, .mv (.c (.bool false))⟩]) .ret) .skip)) (.seq (.seq (.rg false [⟨.some 59, .none, .ld (.some 8) (.t 2)⟩, ⟨.some 60, .none, .call 187 .pure [.t 59]⟩, ⟨.some 61, .none, .un .not (.t 60)⟩]) (.cond (.t 61) (.seq (.rg false [⟨.some 62, .none, .mv (.t 6)⟩, ⟨.some 63, .none, .bin .eql (.t 62) (.c (.int .i64 1))⟩, ⟨.some 64, .none, .mv (.t 63)⟩, ⟨.some 65, .some (64, true), .mv (.t 5)⟩, ⟨.some 66, .some (64, true), .lenL (.t 65)⟩, ⟨.some 67, .some (64, true), .bin .eql (.t 66) (.c (.int .i64 0))⟩, ⟨.some 68, .none, .pick (.t 64) (.t 67) (.c (.bool false))⟩, ⟨.some 4, .none, .mv (.t 68)⟩]) .ret) .skip)) (.seq (.rg false [⟨.some 69, .none, .mv (.t 6)⟩, ⟨.some 70, .none, .bin .eql (.t 69) (.c (.int .i64 0))⟩, ⟨.some 71, .none, .mv (.t 70)⟩, ⟨.some 72, .some (71, true), .mv (.t 5)⟩, ⟨.some 73, .some (71, true), .ld (.some 8) (.t 2)⟩, ⟨.some 74, .some (71, true), .call 197 .pure [.t 73]⟩, ⟨.some 75, .some (71, true), .call 36 .pure [.t 72, .t 74]⟩, ⟨.some 76, .none, .pick (.t 71) (.t 75) (.c (.bool false))⟩, ⟨.some 4, .none, .mv (.t 76)⟩]) .ret)))))))))
def lhj : List (Nat × Def) := [(185, d185)]
section
variable {env : Nat → Option Def} {fr : Fr} {σ σ' σ'' : St} {K : Fr → St → Prop} {Q : X → Fr → St → Prop} {p : PV} {bs : List UInt8}
theorem a185 (H : Has la env) (G : Has lc env) (F : Has lf env) (I : Has lg env) (J : Has li env) (P : Has lp env) (U : Has lu env) (A : Has lha env) (W : Has lhb env) (C : Has lhc env) (D5 : Has lhe env) (D6 : Has lhd env) (E : Has lhg env) (N0 : Has ln0 env) (N : Has ln env)
    (L0 : Has ll0 env) (L : Has ll env) (M0 : Has lm0 env) (M : Has lm env) (I2 : Has lhi env) (T : Has lhj env)
    (h204 : ∀ s : List UInt8, s.length ≤ 4000000000 → AV env 204 [txt s] = some (.tu [.sl (labs (parseS s).1), .sc (.int .i64 (parseS s).2)]))
    (h208 : ∀ s : List UInt8, s.length ≤ 1000000 → AV env 208 [txt s] = some (.tu [.sl (labs (parseR s).1), .sc (.bool (parseR s).2)]))
    (hal : AV env 106 [] = some (.sc (.bool true))) {x : Rule} (hx : x.labels.length ≤ 9223372036854775807) {ls : List ByteArray} (hls : ls.length ≤ 9223372036854775807) : AV env 185 [rule x, .sl (strs ls)] = some (.sc (.bool true)) := by
  have h1 := a104 J hx
  have f1 := cutR_fits x
  generalize cutR x = a at h1 f1
  have h2 := a194 C hls
  have k2 : (cutT ls).length ≤ 10 := by rw [cutT_len]; omega
  have s2 := cutT_size ls
  generalize cutT ls = w at h2 k2 s2
  have w1 := a193 H G F I P U A W f1
  have g187 := a187 L0 L M0 M f1
  have hP := a195 H G F I P U A W C D5 E h204 (l := w) (by omega) (fun s hs => by have := s2 s hs; omega) (fun q hq => by have := s2 q (List.mem_of_getElem? hq); omega)
  have hR := a196 A C L0 L M0 M I2 h208 (l := w) (by omega) (fun s hs => by have := s2 s hs; omega)
  have hfit := readP_fits (l := w) (fun s hs => by have := s2 s hs; omega)
  obtain ⟨r1, r2, r3⟩ := read_same w
  have hlk := a189 N0 N (a := (readP w).1) (b := (readP w).1) hfit.l
  rw [likeR_refl] at hlk
  refine AV_wp (T (185, d185) (by simp [lhj])) rfl ?_
  have h36 := a36 D6 (a := wordsR a) (b := wordsR a) (by simp [wordsR])
  rw [decide_eq_true rfl] at h36
  cases ra : rightR a with
  | false =>
    rw [ra] at w1 g187
    simp only [if_false, Bool.false_eq_true] at w1
    rcases hq : readR w with ⟨d, ok⟩
    rw [hq] at hR r1 r2 r3
    simp only at hR r1 r2 r3
    cases ok with
    | true =>
      have hp0 : (readP w).2 = 0 := by have := r1.symm; simpa using this
      have hd := r2 rfl
      rw [hp0, hd] at hP
      rw [hd] at hlk
      simp only [rule] at h1 w1 g187 hP hR hlk ⊢
      (repeat' first
    | refine w_seq ?_ | refine w_rg ?_ | refine wo_nil ?_ | refine g_skU ?_ | refine g_skT ?_ | refine g_skF ?_
    | ((first | apply s_plain | apply s_void | apply s_guard | apply g_goT | apply g_goF); · simp only [go_sem, Nat.reduceEqDiff, Nat.reduceAdd, Nat.reduceLeDiff, h1, h2]; (first | done | rfl))
    | ((first | apply g_T | apply g_F | apply g_gT | apply g_gF); · intro q1_; (first | intro q2_ | have q2_ := q1_); simp only [go_sem, Nat.reduceEqDiff, Nat.reduceAdd, Nat.reduceLeDiff, h1, h2, q1_, q2_]; (first | done | rfl))
    | fail
    )
      (repeat' first
    | refine w_seq ?_ | refine w_rg ?_ | refine wo_nil ?_ | refine g_skU ?_ | refine g_skT ?_ | refine g_skF ?_
    | ((first | apply s_plain | apply s_void | apply s_guard | apply g_goT | apply g_goF); · simp only [go_sem, Nat.reduceEqDiff, Nat.reduceAdd, Nat.reduceLeDiff, w1]; (first | done | rfl))
    | ((first | apply g_T | apply g_F | apply g_gT | apply g_gF); · intro q1_; (first | intro q2_ | have q2_ := q1_); simp only [go_sem, Nat.reduceEqDiff, Nat.reduceAdd, Nat.reduceLeDiff, w1, q1_, q2_]; (first | done | rfl))
    | fail
    )
      (repeat' first
    | refine w_seq ?_ | refine w_rg ?_ | refine wo_nil ?_ | refine g_skU ?_ | refine g_skT ?_ | refine g_skF ?_
    | ((first | apply s_plain | apply s_void | apply s_guard | apply g_goT | apply g_goF); · simp only [go_sem, Nat.reduceEqDiff, Nat.reduceAdd, Nat.reduceLeDiff, hP]; (first | done | rfl))
    | ((first | apply g_T | apply g_F | apply g_gT | apply g_gF); · intro q1_; (first | intro q2_ | have q2_ := q1_); simp only [go_sem, Nat.reduceEqDiff, Nat.reduceAdd, Nat.reduceLeDiff, hP, q1_, q2_]; (first | done | rfl))
    | fail
    )
      (repeat' first
    | refine w_seq ?_ | refine w_rg ?_ | refine wo_nil ?_ | refine g_skU ?_ | refine g_skT ?_ | refine g_skF ?_
    | ((first | apply s_plain | apply s_void | apply s_guard | apply g_goT | apply g_goF); · simp only [go_sem, Nat.reduceEqDiff, Nat.reduceAdd, Nat.reduceLeDiff, hR]; (first | done | rfl))
    | ((first | apply g_T | apply g_F | apply g_gT | apply g_gF); · intro q1_; (first | intro q2_ | have q2_ := q1_); simp only [go_sem, Nat.reduceEqDiff, Nat.reduceAdd, Nat.reduceLeDiff, hR, q1_, q2_]; (first | done | rfl))
    | fail
    )
      (repeat' first
    | refine w_seq ?_ | refine w_rg ?_ | refine wo_nil ?_ | refine g_skU ?_ | refine g_skT ?_ | refine g_skF ?_
    | ((first | apply s_plain | apply s_void | apply s_guard | apply g_goT | apply g_goF); · simp only [go_sem, Nat.reduceEqDiff, Nat.reduceAdd, Nat.reduceLeDiff, hlk, hal, bne_self_eq_false, g187]; (first | done | rfl))
    | ((first | apply g_T | apply g_F | apply g_gT | apply g_gF); · intro q1_; (first | intro q2_ | have q2_ := q1_); simp only [go_sem, Nat.reduceEqDiff, Nat.reduceAdd, Nat.reduceLeDiff, hlk, hal, bne_self_eq_false, g187, q1_, q2_]; (first | done | rfl))
    | fail
    )
      (repeat' first
    | refine w_seq ?_ | refine w_rg ?_ | refine wo_nil ?_ | refine g_skU ?_ | refine g_skT ?_ | refine g_skF ?_
    | ((first | apply s_plain | apply s_void | apply s_guard | apply g_goT | apply g_goF); · simp only [go_sem, Nat.reduceEqDiff, Nat.reduceAdd, Nat.reduceLeDiff, hlk, hal, bne_self_eq_false, g187, beq_self_eq_true]; (first | done | rfl))
    | ((first | apply g_T | apply g_F | apply g_gT | apply g_gF); · intro q1_; (first | intro q2_ | have q2_ := q1_); simp only [go_sem, Nat.reduceEqDiff, Nat.reduceAdd, Nat.reduceLeDiff, hlk, hal, bne_self_eq_false, g187, beq_self_eq_true, q1_, q2_]; (first | done | rfl))
    | (apply w_condX; · simp only [go_sem, Nat.reduceEqDiff, Nat.reduceAdd, Nat.reduceLeDiff, hlk, hal, bne_self_eq_false, g187, beq_self_eq_true]; (first | done | rfl)); (first | refine wcd_T ?_ | refine wcd_F ?_)
    | refine w_skip ?_ | refine w_exit ?_ | refine w_ret ?_
    | fail
    )
      exact ⟨by first | exact .inr rfl | exact .inr trivial | exact .inl rfl, by simp only [go_sem, Nat.reduceEqDiff, Nat.reduceAdd, Nat.reduceLeDiff, retOf, resOf, beq_self_eq_true]; first | done | rfl⟩
    | false =>
      obtain ⟨hp, hd⟩ := r3 rfl
      subst hd
      rw [hp] at hP hlk
      simp only [rule, emptyR, labs, List.map_nil] at h1 w1 g187 hP hR hlk ⊢
      (repeat' first
    | refine w_seq ?_ | refine w_rg ?_ | refine wo_nil ?_ | refine g_skU ?_ | refine g_skT ?_ | refine g_skF ?_
    | ((first | apply s_plain | apply s_void | apply s_guard | apply g_goT | apply g_goF); · simp only [go_sem, Nat.reduceEqDiff, Nat.reduceAdd, Nat.reduceLeDiff, h1, h2]; (first | done | rfl))
    | ((first | apply g_T | apply g_F | apply g_gT | apply g_gF); · intro q1_; (first | intro q2_ | have q2_ := q1_); simp only [go_sem, Nat.reduceEqDiff, Nat.reduceAdd, Nat.reduceLeDiff, h1, h2, q1_, q2_]; (first | done | rfl))
    | fail
    )
      (repeat' first
    | refine w_seq ?_ | refine w_rg ?_ | refine wo_nil ?_ | refine g_skU ?_ | refine g_skT ?_ | refine g_skF ?_
    | ((first | apply s_plain | apply s_void | apply s_guard | apply g_goT | apply g_goF); · simp only [go_sem, Nat.reduceEqDiff, Nat.reduceAdd, Nat.reduceLeDiff, w1]; (first | done | rfl))
    | ((first | apply g_T | apply g_F | apply g_gT | apply g_gF); · intro q1_; (first | intro q2_ | have q2_ := q1_); simp only [go_sem, Nat.reduceEqDiff, Nat.reduceAdd, Nat.reduceLeDiff, w1, q1_, q2_]; (first | done | rfl))
    | fail
    )
      (repeat' first
    | refine w_seq ?_ | refine w_rg ?_ | refine wo_nil ?_ | refine g_skU ?_ | refine g_skT ?_ | refine g_skF ?_
    | ((first | apply s_plain | apply s_void | apply s_guard | apply g_goT | apply g_goF); · simp only [go_sem, Nat.reduceEqDiff, Nat.reduceAdd, Nat.reduceLeDiff, hP]; (first | done | rfl))
    | ((first | apply g_T | apply g_F | apply g_gT | apply g_gF); · intro q1_; (first | intro q2_ | have q2_ := q1_); simp only [go_sem, Nat.reduceEqDiff, Nat.reduceAdd, Nat.reduceLeDiff, hP, q1_, q2_]; (first | done | rfl))
    | fail
    )
      (repeat' first
    | refine w_seq ?_ | refine w_rg ?_ | refine wo_nil ?_ | refine g_skU ?_ | refine g_skT ?_ | refine g_skF ?_
    | ((first | apply s_plain | apply s_void | apply s_guard | apply g_goT | apply g_goF); · simp only [go_sem, Nat.reduceEqDiff, Nat.reduceAdd, Nat.reduceLeDiff, hR]; (first | done | rfl))
    | ((first | apply g_T | apply g_F | apply g_gT | apply g_gF); · intro q1_; (first | intro q2_ | have q2_ := q1_); simp only [go_sem, Nat.reduceEqDiff, Nat.reduceAdd, Nat.reduceLeDiff, hR, q1_, q2_]; (first | done | rfl))
    | fail
    )
      (repeat' first
    | refine w_seq ?_ | refine w_rg ?_ | refine wo_nil ?_ | refine g_skU ?_ | refine g_skT ?_ | refine g_skF ?_
    | ((first | apply s_plain | apply s_void | apply s_guard | apply g_goT | apply g_goF); · simp only [go_sem, Nat.reduceEqDiff, Nat.reduceAdd, Nat.reduceLeDiff, hlk, hal, bne_self_eq_false, g187]; (first | done | rfl))
    | ((first | apply g_T | apply g_F | apply g_gT | apply g_gF); · intro q1_; (first | intro q2_ | have q2_ := q1_); simp only [go_sem, Nat.reduceEqDiff, Nat.reduceAdd, Nat.reduceLeDiff, hlk, hal, bne_self_eq_false, g187, q1_, q2_]; (first | done | rfl))
    | fail
    )
      (repeat' first
    | refine w_seq ?_ | refine w_rg ?_ | refine wo_nil ?_ | refine g_skU ?_ | refine g_skT ?_ | refine g_skF ?_
    | ((first | apply s_plain | apply s_void | apply s_guard | apply g_goT | apply g_goF); · simp only [go_sem, Nat.reduceEqDiff, Nat.reduceAdd, Nat.reduceLeDiff, hlk, hal, bne_self_eq_false, g187, beq_self_eq_true]; (first | done | rfl))
    | ((first | apply g_T | apply g_F | apply g_gT | apply g_gF); · intro q1_; (first | intro q2_ | have q2_ := q1_); simp only [go_sem, Nat.reduceEqDiff, Nat.reduceAdd, Nat.reduceLeDiff, hlk, hal, bne_self_eq_false, g187, beq_self_eq_true, q1_, q2_]; (first | done | rfl))
    | (apply w_condX; · simp only [go_sem, Nat.reduceEqDiff, Nat.reduceAdd, Nat.reduceLeDiff, hlk, hal, bne_self_eq_false, g187, beq_self_eq_true]; (first | done | rfl)); (first | refine wcd_T ?_ | refine wcd_F ?_)
    | refine w_skip ?_ | refine w_exit ?_ | refine w_ret ?_
    | fail
    )
      exact ⟨by first | exact .inr rfl | exact .inr trivial | exact .inl rfl, by simp only [go_sem, Nat.reduceEqDiff, Nat.reduceAdd, Nat.reduceLeDiff, retOf, resOf, beq_self_eq_true]; first | done | rfl⟩
  | true =>
    have h197 := a197 U A C ra
    rw [ra] at w1 g187
    simp only [if_true] at w1
    rcases hq : readR w with ⟨d, ok⟩
    rw [hq] at hR r1 r2 r3
    simp only at hR r1 r2 r3
    cases ok with
    | true =>
      have hp0 : (readP w).2 = 0 := by have := r1.symm; simpa using this
      have hd := r2 rfl
      rw [hp0, hd] at hP
      rw [hd] at hlk
      simp only [rule] at h1 w1 g187 hP hR hlk h197 ⊢
      (repeat' first
    | refine w_seq ?_ | refine w_rg ?_ | refine wo_nil ?_ | refine g_skU ?_ | refine g_skT ?_ | refine g_skF ?_
    | ((first | apply s_plain | apply s_void | apply s_guard | apply g_goT | apply g_goF); · simp only [go_sem, Nat.reduceEqDiff, Nat.reduceAdd, Nat.reduceLeDiff, h1, h2]; (first | done | rfl))
    | ((first | apply g_T | apply g_F | apply g_gT | apply g_gF); · intro q1_; (first | intro q2_ | have q2_ := q1_); simp only [go_sem, Nat.reduceEqDiff, Nat.reduceAdd, Nat.reduceLeDiff, h1, h2, q1_, q2_]; (first | done | rfl))
    | fail
    )
      (repeat' first
    | refine w_seq ?_ | refine w_rg ?_ | refine wo_nil ?_ | refine g_skU ?_ | refine g_skT ?_ | refine g_skF ?_
    | ((first | apply s_plain | apply s_void | apply s_guard | apply g_goT | apply g_goF); · simp only [go_sem, Nat.reduceEqDiff, Nat.reduceAdd, Nat.reduceLeDiff, w1]; (first | done | rfl))
    | ((first | apply g_T | apply g_F | apply g_gT | apply g_gF); · intro q1_; (first | intro q2_ | have q2_ := q1_); simp only [go_sem, Nat.reduceEqDiff, Nat.reduceAdd, Nat.reduceLeDiff, w1, q1_, q2_]; (first | done | rfl))
    | fail
    )
      (repeat' first
    | refine w_seq ?_ | refine w_rg ?_ | refine wo_nil ?_ | refine g_skU ?_ | refine g_skT ?_ | refine g_skF ?_
    | ((first | apply s_plain | apply s_void | apply s_guard | apply g_goT | apply g_goF); · simp only [go_sem, Nat.reduceEqDiff, Nat.reduceAdd, Nat.reduceLeDiff, hP]; (first | done | rfl))
    | ((first | apply g_T | apply g_F | apply g_gT | apply g_gF); · intro q1_; (first | intro q2_ | have q2_ := q1_); simp only [go_sem, Nat.reduceEqDiff, Nat.reduceAdd, Nat.reduceLeDiff, hP, q1_, q2_]; (first | done | rfl))
    | fail
    )
      (repeat' first
    | refine w_seq ?_ | refine w_rg ?_ | refine wo_nil ?_ | refine g_skU ?_ | refine g_skT ?_ | refine g_skF ?_
    | ((first | apply s_plain | apply s_void | apply s_guard | apply g_goT | apply g_goF); · simp only [go_sem, Nat.reduceEqDiff, Nat.reduceAdd, Nat.reduceLeDiff, hR]; (first | done | rfl))
    | ((first | apply g_T | apply g_F | apply g_gT | apply g_gF); · intro q1_; (first | intro q2_ | have q2_ := q1_); simp only [go_sem, Nat.reduceEqDiff, Nat.reduceAdd, Nat.reduceLeDiff, hR, q1_, q2_]; (first | done | rfl))
    | fail
    )
      (repeat' first
    | refine w_seq ?_ | refine w_rg ?_ | refine wo_nil ?_ | refine g_skU ?_ | refine g_skT ?_ | refine g_skF ?_
    | ((first | apply s_plain | apply s_void | apply s_guard | apply g_goT | apply g_goF); · simp only [go_sem, Nat.reduceEqDiff, Nat.reduceAdd, Nat.reduceLeDiff, hlk, hal, bne_self_eq_false, g187, h197, h36]; (first | done | rfl))
    | ((first | apply g_T | apply g_F | apply g_gT | apply g_gF); · intro q1_; (first | intro q2_ | have q2_ := q1_); simp only [go_sem, Nat.reduceEqDiff, Nat.reduceAdd, Nat.reduceLeDiff, hlk, hal, bne_self_eq_false, g187, h197, h36, q1_, q2_]; (first | done | rfl))
    | fail
    )
      (repeat' first
    | refine w_seq ?_ | refine w_rg ?_ | refine wo_nil ?_ | refine g_skU ?_ | refine g_skT ?_ | refine g_skF ?_
    | ((first | apply s_plain | apply s_void | apply s_guard | apply g_goT | apply g_goF); · simp only [go_sem, Nat.reduceEqDiff, Nat.reduceAdd, Nat.reduceLeDiff, hlk, hal, bne_self_eq_false, g187, beq_self_eq_true, h197, h36]; (first | done | rfl))
    | ((first | apply g_T | apply g_F | apply g_gT | apply g_gF); · intro q1_; (first | intro q2_ | have q2_ := q1_); simp only [go_sem, Nat.reduceEqDiff, Nat.reduceAdd, Nat.reduceLeDiff, hlk, hal, bne_self_eq_false, g187, beq_self_eq_true, h197, h36, q1_, q2_]; (first | done | rfl))
    | (apply w_condX; · simp only [go_sem, Nat.reduceEqDiff, Nat.reduceAdd, Nat.reduceLeDiff, hlk, hal, bne_self_eq_false, g187, beq_self_eq_true, h197, h36]; (first | done | rfl)); (first | refine wcd_T ?_ | refine wcd_F ?_)
    | refine w_skip ?_ | refine w_exit ?_ | refine w_ret ?_
    | fail
    )
      exact ⟨by first | exact .inr rfl | exact .inr trivial | exact .inl rfl, by simp only [go_sem, Nat.reduceEqDiff, Nat.reduceAdd, Nat.reduceLeDiff, retOf, resOf, beq_self_eq_true]; first | done | rfl⟩
    | false =>
      obtain ⟨hp, hd⟩ := r3 rfl
      subst hd
      rw [hp] at hP hlk
      simp only [rule, emptyR, labs, List.map_nil] at h1 w1 g187 hP hR hlk h197 ⊢
      (repeat' first
    | refine w_seq ?_ | refine w_rg ?_ | refine wo_nil ?_ | refine g_skU ?_ | refine g_skT ?_ | refine g_skF ?_
    | ((first | apply s_plain | apply s_void | apply s_guard | apply g_goT | apply g_goF); · simp only [go_sem, Nat.reduceEqDiff, Nat.reduceAdd, Nat.reduceLeDiff, h1, h2]; (first | done | rfl))
    | ((first | apply g_T | apply g_F | apply g_gT | apply g_gF); · intro q1_; (first | intro q2_ | have q2_ := q1_); simp only [go_sem, Nat.reduceEqDiff, Nat.reduceAdd, Nat.reduceLeDiff, h1, h2, q1_, q2_]; (first | done | rfl))
    | fail
    )
      (repeat' first
    | refine w_seq ?_ | refine w_rg ?_ | refine wo_nil ?_ | refine g_skU ?_ | refine g_skT ?_ | refine g_skF ?_
    | ((first | apply s_plain | apply s_void | apply s_guard | apply g_goT | apply g_goF); · simp only [go_sem, Nat.reduceEqDiff, Nat.reduceAdd, Nat.reduceLeDiff, w1]; (first | done | rfl))
    | ((first | apply g_T | apply g_F | apply g_gT | apply g_gF); · intro q1_; (first | intro q2_ | have q2_ := q1_); simp only [go_sem, Nat.reduceEqDiff, Nat.reduceAdd, Nat.reduceLeDiff, w1, q1_, q2_]; (first | done | rfl))
    | fail
    )
      (repeat' first
    | refine w_seq ?_ | refine w_rg ?_ | refine wo_nil ?_ | refine g_skU ?_ | refine g_skT ?_ | refine g_skF ?_
    | ((first | apply s_plain | apply s_void | apply s_guard | apply g_goT | apply g_goF); · simp only [go_sem, Nat.reduceEqDiff, Nat.reduceAdd, Nat.reduceLeDiff, hP]; (first | done | rfl))
    | ((first | apply g_T | apply g_F | apply g_gT | apply g_gF); · intro q1_; (first | intro q2_ | have q2_ := q1_); simp only [go_sem, Nat.reduceEqDiff, Nat.reduceAdd, Nat.reduceLeDiff, hP, q1_, q2_]; (first | done | rfl))
    | fail
    )
      (repeat' first
    | refine w_seq ?_ | refine w_rg ?_ | refine wo_nil ?_ | refine g_skU ?_ | refine g_skT ?_ | refine g_skF ?_
    | ((first | apply s_plain | apply s_void | apply s_guard | apply g_goT | apply g_goF); · simp only [go_sem, Nat.reduceEqDiff, Nat.reduceAdd, Nat.reduceLeDiff, hR]; (first | done | rfl))
    | ((first | apply g_T | apply g_F | apply g_gT | apply g_gF); · intro q1_; (first | intro q2_ | have q2_ := q1_); simp only [go_sem, Nat.reduceEqDiff, Nat.reduceAdd, Nat.reduceLeDiff, hR, q1_, q2_]; (first | done | rfl))
    | fail
    )
      (repeat' first
    | refine w_seq ?_ | refine w_rg ?_ | refine wo_nil ?_ | refine g_skU ?_ | refine g_skT ?_ | refine g_skF ?_
    | ((first | apply s_plain | apply s_void | apply s_guard | apply g_goT | apply g_goF); · simp only [go_sem, Nat.reduceEqDiff, Nat.reduceAdd, Nat.reduceLeDiff, hlk, hal, bne_self_eq_false, g187, h197, h36]; (first | done | rfl))
    | ((first | apply g_T | apply g_F | apply g_gT | apply g_gF); · intro q1_; (first | intro q2_ | have q2_ := q1_); simp only [go_sem, Nat.reduceEqDiff, Nat.reduceAdd, Nat.reduceLeDiff, hlk, hal, bne_self_eq_false, g187, h197, h36, q1_, q2_]; (first | done | rfl))
    | fail
    )
      (repeat' first
    | refine w_seq ?_ | refine w_rg ?_ | refine wo_nil ?_ | refine g_skU ?_ | refine g_skT ?_ | refine g_skF ?_
    | ((first | apply s_plain | apply s_void | apply s_guard | apply g_goT | apply g_goF); · simp only [go_sem, Nat.reduceEqDiff, Nat.reduceAdd, Nat.reduceLeDiff, hlk, hal, bne_self_eq_false, g187, beq_self_eq_true, h197, h36]; (first | done | rfl))
    | ((first | apply g_T | apply g_F | apply g_gT | apply g_gF); · intro q1_; (first | intro q2_ | have q2_ := q1_); simp only [go_sem, Nat.reduceEqDiff, Nat.reduceAdd, Nat.reduceLeDiff, hlk, hal, bne_self_eq_false, g187, beq_self_eq_true, h197, h36, q1_, q2_]; (first | done | rfl))
    | (apply w_condX; · simp only [go_sem, Nat.reduceEqDiff, Nat.reduceAdd, Nat.reduceLeDiff, hlk, hal, bne_self_eq_false, g187, beq_self_eq_true, h197, h36]; (first | done | rfl)); (first | refine wcd_T ?_ | refine wcd_F ?_)
    | refine w_skip ?_ | refine w_exit ?_ | refine w_ret ?_
    | fail
    )
      exact ⟨by first | exact .inr rfl | exact .inr trivial | exact .inl rfl, by simp only [go_sem, Nat.reduceEqDiff, Nat.reduceAdd, Nat.reduceLeDiff, retOf, resOf, beq_self_eq_true]; first | done | rfl⟩
end

section
variable {P : Program}
def fieldsOf (P : Program) (t : TypeId) : List (Nat × TypeId) := match P.underlying t with
  | some (.struct fs) => fs.toList.map fun f => (f.offset, f.type)
  | _ => []
theorem Is.fields {t : TypeId} {ps : List PV} (h : Is P t ps) (ha : isAgg P t = true) : ps.length = P.cellsOf t ∧ ∀ q ∈ fieldsOf P t, Is P q.2 ((ps.drop q.1).take (P.cellsOf q.2)) := by
  unfold isAgg at ha
  split at ha
  · rename_i fs hu
    obtain ⟨h1, h2⟩ := h.st' hu
    refine ⟨h1, fun q hq => ?_⟩
    simp only [fieldsOf, hu, List.mem_map] at hq
    obtain ⟨f, hf, rfl⟩ := hq
    obtain ⟨i, hi⟩ := List.getElem?_of_mem hf
    exact h2 i f (by simpa using hi)
  · cases ha
theorem str_of {t : TypeId} {p : PV} (h : Is P t [p]) (hk : (match P.underlying t with | some .string => true | _ => false) = true) : ∃ s : ByteArray, p = .sc (.string s) ∧ s.size ≤ reachBytes := by
  split at hk
  · rename_i hu
    obtain ⟨s, hs, h2⟩ := h.str' hu
    simp only [List.cons.injEq, and_true] at hs
    exact ⟨s, hs, h2⟩
  · cases hk
theorem returns_and_shapedZ {H : Type} {enc : TypeId × Value → H} {a : Assume} {C : Checked} {os : Os} {f : FuncId} {fn : Func} {s : ChangeSpec} {conds : List PathCond} {apart fresh handsOn again : Bool} {Z : World → Array Value → Prop}
    (hZ : ∀ (w w' : World) (args : Array Value), w.heap = w'.heap → Z w args → Z w' args)
    (own : ownKnob C.prog.godebug = none) (started : os.Started) (noInit : C.prog.inits.idxOf? f = none) (hfn : C.prog.funcs[f]? = some fn)
    (witness : ∃ (w : World) (tape : Tape) (i : Input), w.os = os ∧ (w.forCall tape i).Shaped C.prog ∧ i.vars = [] ∧ Input.okWide C.prog (w.forCall tape i) .any w.heap.size f i ∧
      ((s.pre enc C.prog fn conds apart (w.forCall tape i).memory i.args ∧ Z (w.forCall tape i).memory i.args) ∧ sizedMet enc C.prog fn (OpenSpec.ofChange s) apart (w.forCall tape i).memory i.args) ∧ a.holds C.prog (lone (Frame.enter C.prog f i.args .normal) [] (w.forCall tape i)))
    (contract : ∀ (W : World) (base : Nat) (args : Array Value) (ds gs : List (DataW H)) (before : List MemPlace),
      (∀ (j : Nat) t v, fn.params[j]? = some t → args[j]? = some v → Value.okWide C.prog W .any base t v) →
      DataW.Whole enc C.prog fn.params.toList s.vars apart W args.toList ds gs before →
      conds.all (PathCond.test C.prog ⟨fn.params.toList, ds, s.plain.varTypes C.prog, gs⟩) = true →
      (DataW.weightsEach C.prog (fn.params.toList ++ s.plain.varTypes C.prog) (ds ++ gs)).all (· ≤ reachBytes) = true → W.ShapedOpen C.prog → Z W args →
      Calls C.prog f args W fun e W' => ∃ v, e = .returned v ∧ s.post enc C.prog fn apart fresh handsOn again W args v W') :
    ReturnsInHanded a C os f .any (fun w args => (s.pre enc C.prog fn conds apart w args ∧ Z w args) ∧ sizedMet enc C.prog fn (OpenSpec.ofChange s) apart w args) (s.post enc C.prog fn apart fresh handsOn again) := by
  refine returnsInHanded_of_calls own started noInit witness ?_
  intro w tape i _ hsh _ hok hpre _
  obtain ⟨_, _, _, fn', hfn', _, _, _, _, hval⟩ := hok
  have e : fn' = fn := Option.some.inj (hfn'.symm.trans hfn)
  subst e
  obtain ⟨⟨⟨ds, gs, before, hw, hc⟩, hzz⟩, hz⟩ := hpre
  have hw' := DataW.Whole.of_heap (w' := w.forCall tape i) (by rfl) hw
  refine (contract (w.forCall tape i) w.heap.size i.args ds gs before hval hw' hc (hz.weights hw) hsh (hZ (w.forCall tape i).memory (w.forCall tape i) i.args rfl hzz)).mono fun e W' ⟨v, he, hp⟩ => ?_
  subst he
  exact ChangeSpec.post_blind hp
end

end Go.Proofs.YtckcgppnppiccaaGreatDoorPv
