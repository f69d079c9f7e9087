/-
What a set of labels has of some names.
-/
import Derived.Test.YtjijlmfhnkipmaaDoorPvSw
namespace Go.Proofs.YtjijlmfhnkipmaaDoorPv
open Go
set_option linter.unusedSimpArgs false
set_option linter.unusedVariables false
set_option maxHeartbeats 4000000
attribute [local go_sem ↓] e_mv e_pick e_bin e_eqs e_beq e_un e_cvi e_str e_s2b e_b2s e_box e_build e_bsl e_ld e_st e_nck e_mkf e_slcS e_slcL e_fa e_fld e_ia e_iaa e_ix e_ixa e_ext e_lenS e_lenL e_mnmx e_app e_msl e_clr e_call e_callv pa_t pa_c pa_f slcSP_str hiOf_some hiOf_none loOf_some loOf_none set_eq set_ne
attribute [local go_sem] pv pv1 simple frOf_0 frOf_1 frOf_2 frOf_3 frOf_4 frOf_5 ne_eq not_false_eq_true if_true Bool.false_eq_true if_false pbin punary Option.map_some Option.bind_some pick_and pick_or opt_true Bool.true_and Bool.and_self Bool.and_true Bool.true_or Bool.false_or Bool.not_true Bool.not_false callE pcall_eq List.map_cons List.map_nil List.append_nil List.nil_append List.cons_append mapM_cons' mapM_nil' dep_eq fz_sc fz_sl fz_em fz_fn fz_fp fz_agg fz_bx fz_ob Nat.lt_irrefl Nat.zero_lt_one Nat.lt_add_one flat clL cl Bool.or_true okc cells_agg cells_sc cells_sl cells_em cells_ob cells_fn cells_bx cells_fp List.length_cons List.length_nil Nat.zero_add and_self true_and and_true new_m new_c put_m put_c nil_m nil_c deref List.getElem?_cons_zero List.getElem?_cons_succ List.drop_zero List.drop_succ_cons List.take_succ_cons List.take_zero Nat.le_refl false_and and_false
set_option maxRecDepth 8000

/-- slices.Index[[]string,string] -/
def d37 : Def := (.code 2 [.tmp 4] (.seq (.rg false [⟨.some 4, .none, .mv (.c (.int .i64 0))⟩]) (.seq (.seq (.rg false [⟨.some 6, .none, .mv (.t 0)⟩, ⟨.some 7, .none, .lenL (.t 6)⟩, ⟨.some 8, .none, .mv (.c (.int .i64 0))⟩]) (.block 0 (.loop (.seq (.rg false [⟨.some 9, .none, .bin .lss (.t 8) (.t 7)⟩]) (.seq (.cond (.t 9) .skip (.exit 0)) (.seq (.block 1 (.seq (.rg false [⟨.some 10, .none, .mv (.t 8)⟩, ⟨.some 5, .none, .mv (.t 10)⟩]) (.seq (.rg false [⟨.some 11, .none, .mv (.t 1)⟩, ⟨.some 12, .none, .mv (.t 0)⟩, ⟨.some 13, .none, .mv (.t 5)⟩, ⟨.some 14, .none, .ia 1 (.t 12) (.t 13)⟩, ⟨.some 15, .none, .ld .none (.t 14)⟩, ⟨.some 16, .none, .bin .eql (.t 11) (.t 15)⟩]) (.cond (.t 16) (.seq (.rg false [⟨.some 17, .none, .mv (.t 5)⟩, ⟨.some 4, .none, .mv (.t 17)⟩]) .ret) .skip)))) (.rg false [⟨.some 18, .none, .bin .add (.t 8) (.c (.int .i64 1))⟩, ⟨.some 8, .none, .mv (.t 18)⟩]))))))) (.seq (.rg false [⟨.some 4, .none, .mv (.c (.int .i64 (-1)))⟩]) .ret))))
/-- slices.Contains[[]string,string] -/
def d50 : Def := (.code 2 [.tmp 4] (.seq (.rg false [⟨.some 4, .none, .mv (.c (.bool false))⟩]) (.seq (.rg false [⟨.some 5, .none, .mv (.t 0)⟩, ⟨.some 6, .none, .mv (.t 1)⟩, ⟨.some 7, .none, .call 37 .pure [.t 5, .t 6]⟩, ⟨.some 8, .none, .bin .geq (.t 7) (.c (.int .i64 0))⟩, ⟨.some 4, .none, .mv (.t 8)⟩]) .ret)))
/-- transhipment/label.Keep$1 -/
def d247 : Def := (.code 2 [.tmp 3] (.seq (.rg false [⟨.some 2, .none, .box (.t 0)⟩, ⟨.some 3, .none, .mv (.c (.bool false))⟩]) (.seq (.rg false [⟨.some 4, .none, .ld .none (.t 1)⟩, ⟨.some 5, .none, .fa 0 (.t 2)⟩, ⟨.some 6, .none, .ld .none (.t 5)⟩, ⟨.some 7, .none, .call 50 .pure [.t 4, .t 6]⟩, ⟨.some 8, .none, .un .not (.t 7)⟩, ⟨.some 3, .none, .mv (.t 8)⟩]) .ret)))
/-- transhipment/transhipmentlaw03.names -/
def d243 : Def := (.code 1 [.tmp 2] (.seq (.rg false [⟨.some 2, .none, .mv (.c (.slice .none 0 0))⟩]) (.seq (.rg false [⟨.some 3, .none, .mv (.c (.slice .none 0 0))⟩]) (.seq (.seq (.rg false [⟨.some 6, .none, .mv (.t 0)⟩, ⟨.some 7, .none, .mv (.t 0)⟩, ⟨.some 8, .none, .lenL (.t 7)⟩, ⟨.some 9, .none, .mnmx false [.t 8, .c (.int .i64 10)]⟩, ⟨.some 10, .none, .slcL 1 (.t 6) .none (.some (.t 9))⟩, ⟨.some 11, .none, .lenL (.t 10)⟩, ⟨.some 12, .none, .mv (.c (.int .i64 0))⟩]) (.block 0 (.loop (.seq (.rg false [⟨.some 13, .none, .bin .lss (.t 12) (.t 11)⟩]) (.seq (.cond (.t 13) .skip (.exit 0)) (.seq (.block 1 (.seq (.rg false [⟨.some 14, .none, .ia 1 (.t 10) (.t 12)⟩, ⟨.some 15, .none, .ld .none (.t 14)⟩, ⟨.some 5, .none, .mv (.t 15)⟩]) (.rg false [⟨.some 16, .none, .mv (.t 3)⟩, ⟨.some 17, .none, .mv (.t 5)⟩, ⟨.some 18, .none, .mv (.t 5)⟩, ⟨.some 19, .none, .lenS (.t 18)⟩, ⟨.some 20, .none, .mnmx false [.t 19, .c (.int .i64 70)]⟩, ⟨.some 21, .none, .slcS (.t 17) .none (.some (.t 20))⟩, ⟨.some 22, .none, .bsl 1 (.string ⟨#[]⟩) 1 [(0, .t 21)]⟩, ⟨.some 23, .none, .app 1 16 false (.t 16) (.t 22)⟩, ⟨.some 3, .none, .mv (.t 23)⟩]))) (.rg false [⟨.some 24, .none, .bin .add (.t 12) (.c (.int .i64 1))⟩, ⟨.some 12, .none, .mv (.t 24)⟩]))))))) (.seq (.rg false [⟨.some 25, .none, .mv (.t 3)⟩, ⟨.some 2, .none, .mv (.t 25)⟩]) .ret)))))
/-- transhipment/transhipmentref03.Keep -/
def d245 : Def := (.code 2 [.tmp 4] (.seq (.rg false [⟨.some 4, .none, .mv (.c (.slice .none 0 0))⟩]) (.seq (.rg false [⟨.some 11, .none, .mv (.c (.slice .none 0 0))⟩, ⟨.some 5, .none, .mv (.t 11)⟩]) (.seq (.seq (.rg false [⟨.some 12, .none, .mv (.t 0)⟩, ⟨.some 13, .none, .lenL (.t 12)⟩, ⟨.some 14, .none, .mv (.c (.int .i64 0))⟩]) (.block 0 (.loop (.seq (.rg false [⟨.some 15, .none, .bin .lss (.t 14) (.t 13)⟩]) (.seq (.cond (.t 15) .skip (.exit 0)) (.seq (.block 1 (.seq (.rg false [⟨.some 16, .none, .ia 2 (.t 12) (.t 14)⟩, ⟨.some 17, .none, .ld (.some 2) (.t 16)⟩, ⟨.some 7, .none, .box (.c (.agg #[.string ⟨#[]⟩, .string ⟨#[]⟩]))⟩, ⟨.none, .none, .st 2 (.t 7) (.t 17)⟩]) (.seq (.rg false [⟨.some 8, .none, .mv (.c (.bool false))⟩]) (.seq (.seq (.rg false [⟨.some 18, .none, .mv (.t 1)⟩, ⟨.some 19, .none, .lenL (.t 18)⟩, ⟨.some 20, .none, .mv (.c (.int .i64 0))⟩]) (.block 2 (.loop (.seq (.rg false [⟨.some 21, .none, .bin .lss (.t 20) (.t 19)⟩]) (.seq (.cond (.t 21) .skip (.exit 2)) (.seq (.block 3 (.seq (.rg false [⟨.some 22, .none, .ia 1 (.t 18) (.t 20)⟩, ⟨.some 23, .none, .ld .none (.t 22)⟩, ⟨.some 10, .none, .mv (.t 23)⟩]) (.rg false [⟨.some 24, .none, .mv (.t 8)⟩, ⟨.some 25, .none, .mv (.t 24)⟩, ⟨.some 26, .some (25, false), .mv (.t 10)⟩, ⟨.some 27, .some (25, false), .fa 0 (.t 7)⟩, ⟨.some 28, .some (25, false), .ld .none (.t 27)⟩, ⟨.some 29, .some (25, false), .bin .eql (.t 26) (.t 28)⟩, ⟨.some 30, .none, .pick (.t 25) (.c (.bool true)) (.t 29)⟩, ⟨.some 8, .none, .mv (.t 30)⟩]))) (.rg false [⟨.some 31, .none, .bin .add (.t 20) (.c (.int .i64 1))⟩, ⟨.some 20, .none, .mv (.t 31)⟩]))))))) (.seq (.rg false [⟨.some 32, .none, .mv (.t 8)⟩]) (.cond (.t 32) (.rg false [⟨.some 33, .none, .mv (.t 5)⟩, ⟨.some 34, .none, .ld (.some 2) (.t 7)⟩, ⟨.some 35, .none, .bsl 2 (.agg #[.string ⟨#[]⟩, .string ⟨#[]⟩]) 1 [(0, .t 34)]⟩, ⟨.some 36, .none, .app 2 32 false (.t 33) (.t 35)⟩, ⟨.some 5, .none, .mv (.t 36)⟩]) .skip)))))) (.rg false [⟨.some 37, .none, .bin .add (.t 14) (.c (.int .i64 1))⟩, ⟨.some 14, .none, .mv (.t 37)⟩]))))))) (.seq (.rg false [⟨.some 38, .none, .mv (.t 5)⟩, ⟨.some 4, .none, .mv (.t 38)⟩]) .ret)))))

def lx : List (Nat × Def) := [(37, d37), (50, d50), (247, d247), (243, d243), (245, d245)]

section
variable {env : Nat → Option Def} {fr : Fr} {σ σ' : St} {K : Fr → St → Prop} {Q : X → Fr → St → Prop}

def strs (l : List ByteArray) : List PV := l.map fun s => .sc (.string s)
theorem strs_len (l : List ByteArray) : (strs l).length = l.length := by simp [strs]
theorem strs_at {l : List ByteArray} {i : Nat} {s : ByteArray} (h : l[i]? = some s) : (strs l)[i]? = some (.sc (.string s)) := by simp [strs, h]
theorem strs_fz (σ : St) (l : List ByteArray) : (strs l).mapM (fz σ 11) = some (strs l) := by
  induction l with
  | nil => rfl
  | cons m r ih =>
    show List.mapM (fz σ 11) (.sc (.string m) :: strs r) = _
    rw [mapM_cons', ih]
    rfl
def nthS (l : List ByteArray) (i : Nat) : ByteArray := l[i]?.getD ⟨#[]⟩
theorem nthS_eq {l : List ByteArray} {i : Nat} (hi : i < l.length) : nthS l i = l[i] := by unfold nthS; rw [List.getElem?_eq_getElem hi]; rfl

def isS (l : List ByteArray) (s : ByteArray) (i : Nat) : Bool := s.toList == (nthS l i).toList
def hasN (l : List ByteArray) (s : ByteArray) : Bool := decide (found (isS l s) l.length ≥ 0)

theorem a37 (X : Has lx env) {l : List ByteArray} (hn : l.length ≤ 9223372036854775807) (s : ByteArray) : AV env 37 [.sl (strs l), .sc (.string s)] = some (.sc (.int .i64 (found (isS l s) l.length))) := by
  refine AV_wp (X (37, d37) (by simp [lx])) rfl ?_
  have hll := strs_len l
  (repeat' first
    | refine w_seq ?_
    | refine w_rg ?_
    | refine wo_nil ?_
    | refine s_plain (by simp only [go_sem, Nat.reduceEqDiff, Nat.reduceAdd, Nat.reduceLeDiff, hll]; first | done | rfl) ?_
    | refine s_void (by simp only [go_sem, Nat.reduceEqDiff, Nat.reduceAdd, Nat.reduceLeDiff, hll]; first | done | rfl) ?_
    | refine s_guard (by simp only [go_sem, Nat.reduceEqDiff, Nat.reduceAdd, Nat.reduceLeDiff, hll]; first | done | rfl) ?_
    | refine g_skU ?_
    | refine g_T (by intro hb; simp only [go_sem, Nat.reduceEqDiff, Nat.reduceAdd, Nat.reduceLeDiff, hll, hb]; first | done | rfl) ?_
    | refine g_F (by intro hb; simp only [go_sem, Nat.reduceEqDiff, Nat.reduceAdd, Nat.reduceLeDiff, hll, hb]; first | done | rfl) ?_
    | refine g_gT (by intro hb hc; simp only [go_sem, Nat.reduceEqDiff, Nat.reduceAdd, Nat.reduceLeDiff, hll, hb, hc]; first | done | rfl) ?_
    | refine g_gF (by intro hb hc; simp only [go_sem, Nat.reduceEqDiff, Nat.reduceAdd, Nat.reduceLeDiff, hll, hb, hc]; first | done | rfl) ?_
    | refine g_skT ?_
    | refine g_skF ?_
    | refine g_goT (by simp only [go_sem, Nat.reduceEqDiff, Nat.reduceAdd, Nat.reduceLeDiff, hll]; first | done | rfl) ?_
    | refine g_goF (by simp only [go_sem, Nat.reduceEqDiff, Nat.reduceAdd, Nat.reduceLeDiff, hll]; first | done | rfl) ?_
    )
  refine w_block (w_range l.length hn (fun i fr σ => fr 0 = .sl (strs l) ∧ fr 1 = .sc (.string s) ∧ ∀ j, j < i → isS l s j = false) (by decide) ?_ ?_ ?_ _ _ ?_ ?_ ?_)
  · rintro i fr σ v ⟨h0, h1, h2⟩
    refine ⟨⟨?_, ?_, h2⟩, ⟨?_, ?_, h2⟩, ⟨?_, ?_, h2⟩⟩ <;> simp only [go_sem, Nat.reduceEqDiff, Nat.reduceAdd, Nat.reduceLeDiff, h0, h1]
  · rintro i fr σ hi ⟨h0, h1, h3⟩ hti htn
    have hy := strs_at (List.getElem?_eq_getElem hi)
    have hni := nthS_eq hi
    have e1 : (0 : Int) ≤ (i : Int) ∧ (i : Int) < (l.length : Int) := by omega
    refine w_block ?_
    (repeat' first
    | refine w_seq ?_
    | refine w_rg ?_
    | refine wo_nil ?_
    | refine s_plain (by simp only [go_sem, Nat.reduceEqDiff, Nat.reduceAdd, Nat.reduceLeDiff, h0, h1, hti, e1, hll, Int.toNat_natCast, hy]; first | done | rfl) ?_
    | refine s_void (by simp only [go_sem, Nat.reduceEqDiff, Nat.reduceAdd, Nat.reduceLeDiff, h0, h1, hti, e1, hll, Int.toNat_natCast, hy]; first | done | rfl) ?_
    | refine s_guard (by simp only [go_sem, Nat.reduceEqDiff, Nat.reduceAdd, Nat.reduceLeDiff, h0, h1, hti, e1, hll, Int.toNat_natCast, hy]; first | done | rfl) ?_
    | refine g_skU ?_
    | refine g_T (by intro hb; simp only [go_sem, Nat.reduceEqDiff, Nat.reduceAdd, Nat.reduceLeDiff, h0, h1, hti, e1, hll, Int.toNat_natCast, hy, hb]; first | done | rfl) ?_
    | refine g_F (by intro hb; simp only [go_sem, Nat.reduceEqDiff, Nat.reduceAdd, Nat.reduceLeDiff, h0, h1, hti, e1, hll, Int.toNat_natCast, hy, hb]; first | done | rfl) ?_
    | refine g_gT (by intro hb hc; simp only [go_sem, Nat.reduceEqDiff, Nat.reduceAdd, Nat.reduceLeDiff, h0, h1, hti, e1, hll, Int.toNat_natCast, hy, hb, hc]; first | done | rfl) ?_
    | refine g_gF (by intro hb hc; simp only [go_sem, Nat.reduceEqDiff, Nat.reduceAdd, Nat.reduceLeDiff, h0, h1, hti, e1, hll, Int.toNat_natCast, hy, hb, hc]; first | done | rfl) ?_
    | refine g_skT ?_
    | refine g_skF ?_
    | refine g_goT (by simp only [go_sem, Nat.reduceEqDiff, Nat.reduceAdd, Nat.reduceLeDiff, h0, h1, hti, e1, hll, Int.toNat_natCast, hy]; first | done | rfl) ?_
    | refine g_goF (by simp only [go_sem, Nat.reduceEqDiff, Nat.reduceAdd, Nat.reduceLeDiff, h0, h1, hti, e1, hll, Int.toNat_natCast, hy]; first | done | rfl) ?_
    )
    have hbad : isS l s i = (s.toList == l[i].toList) := by unfold isS; rw [hni]
    rw [← hbad]
    cases hpi : isS l s i with
    | true =>
      (repeat' first
    | refine w_seq ?_
    | refine w_rg ?_
    | refine wo_nil ?_
    | refine s_plain (by simp only [go_sem, Nat.reduceEqDiff, Nat.reduceAdd, Nat.reduceLeDiff]; first | done | rfl) ?_
    | refine s_void (by simp only [go_sem, Nat.reduceEqDiff, Nat.reduceAdd, Nat.reduceLeDiff]; first | done | rfl) ?_
    | refine s_guard (by simp only [go_sem, Nat.reduceEqDiff, Nat.reduceAdd, Nat.reduceLeDiff]; first | done | rfl) ?_
    | refine g_skU ?_
    | refine g_T (by intro hb; simp only [go_sem, Nat.reduceEqDiff, Nat.reduceAdd, Nat.reduceLeDiff, hb]; first | done | rfl) ?_
    | refine g_F (by intro hb; simp only [go_sem, Nat.reduceEqDiff, Nat.reduceAdd, Nat.reduceLeDiff, hb]; first | done | rfl) ?_
    | refine g_gT (by intro hb hc; simp only [go_sem, Nat.reduceEqDiff, Nat.reduceAdd, Nat.reduceLeDiff, hb, hc]; first | done | rfl) ?_
    | refine g_gF (by intro hb hc; simp only [go_sem, Nat.reduceEqDiff, Nat.reduceAdd, Nat.reduceLeDiff, hb, hc]; first | done | rfl) ?_
    | refine g_skT ?_
    | refine g_skF ?_
    | refine g_goT (by simp only [go_sem, Nat.reduceEqDiff, Nat.reduceAdd, Nat.reduceLeDiff]; first | done | rfl) ?_
    | refine g_goF (by simp only [go_sem, Nat.reduceEqDiff, Nat.reduceAdd, Nat.reduceLeDiff]; first | done | rfl) ?_
    | refine w_condT (by simp only [go_sem, Nat.reduceEqDiff, Nat.reduceAdd, Nat.reduceLeDiff]; first | done | rfl) ?_
    | refine w_condF (by simp only [go_sem, Nat.reduceEqDiff, Nat.reduceAdd, Nat.reduceLeDiff]; first | done | rfl) ?_
    | refine w_skip ?_
    | refine w_exit ?_
    | refine w_ret ?_
    )
      exact ⟨.inr rfl, by simp only [go_sem, Nat.reduceEqDiff, Nat.reduceAdd, Nat.reduceLeDiff, retOf, resOf, found_hit hi h3 hpi]⟩
    | false =>
      (repeat' first
    | refine w_seq ?_
    | refine w_rg ?_
    | refine wo_nil ?_
    | refine s_plain (by simp only [go_sem, Nat.reduceEqDiff, Nat.reduceAdd, Nat.reduceLeDiff]; first | done | rfl) ?_
    | refine s_void (by simp only [go_sem, Nat.reduceEqDiff, Nat.reduceAdd, Nat.reduceLeDiff]; first | done | rfl) ?_
    | refine s_guard (by simp only [go_sem, Nat.reduceEqDiff, Nat.reduceAdd, Nat.reduceLeDiff]; first | done | rfl) ?_
    | refine g_skU ?_
    | refine g_T (by intro hb; simp only [go_sem, Nat.reduceEqDiff, Nat.reduceAdd, Nat.reduceLeDiff, hb]; first | done | rfl) ?_
    | refine g_F (by intro hb; simp only [go_sem, Nat.reduceEqDiff, Nat.reduceAdd, Nat.reduceLeDiff, hb]; first | done | rfl) ?_
    | refine g_gT (by intro hb hc; simp only [go_sem, Nat.reduceEqDiff, Nat.reduceAdd, Nat.reduceLeDiff, hb, hc]; first | done | rfl) ?_
    | refine g_gF (by intro hb hc; simp only [go_sem, Nat.reduceEqDiff, Nat.reduceAdd, Nat.reduceLeDiff, hb, hc]; first | done | rfl) ?_
    | refine g_skT ?_
    | refine g_skF ?_
    | refine g_goT (by simp only [go_sem, Nat.reduceEqDiff, Nat.reduceAdd, Nat.reduceLeDiff]; first | done | rfl) ?_
    | refine g_goF (by simp only [go_sem, Nat.reduceEqDiff, Nat.reduceAdd, Nat.reduceLeDiff]; first | done | rfl) ?_
    | refine w_condT (by simp only [go_sem, Nat.reduceEqDiff, Nat.reduceAdd, Nat.reduceLeDiff]; first | done | rfl) ?_
    | refine w_condF (by simp only [go_sem, Nat.reduceEqDiff, Nat.reduceAdd, Nat.reduceLeDiff]; first | done | rfl) ?_
    | refine w_skip ?_
    | refine w_exit ?_
    | refine w_ret ?_
    )
      refine ⟨⟨?_, ?_, fun j hj => ?_⟩, ?_, ?_⟩
      · simp only [go_sem, Nat.reduceEqDiff, Nat.reduceAdd, Nat.reduceLeDiff, h0]
      · simp only [go_sem, Nat.reduceEqDiff, Nat.reduceAdd, Nat.reduceLeDiff, h1]
      · by_cases hji : j = i
        · rw [hji]; exact hpi
        · exact h3 j (by omega)
      · simp only [go_sem, Nat.reduceEqDiff, Nat.reduceAdd, Nat.reduceLeDiff, hti]
      · simp only [go_sem, Nat.reduceEqDiff, Nat.reduceAdd, Nat.reduceLeDiff, htn]
  · rintro fr σ ⟨h0, h1, h3⟩
    try simp only [if_true]
    (repeat' first
    | refine w_seq ?_
    | refine w_rg ?_
    | refine wo_nil ?_
    | refine s_plain (by simp only [go_sem, Nat.reduceEqDiff, Nat.reduceAdd, Nat.reduceLeDiff]; first | done | rfl) ?_
    | refine s_void (by simp only [go_sem, Nat.reduceEqDiff, Nat.reduceAdd, Nat.reduceLeDiff]; first | done | rfl) ?_
    | refine s_guard (by simp only [go_sem, Nat.reduceEqDiff, Nat.reduceAdd, Nat.reduceLeDiff]; first | done | rfl) ?_
    | refine g_skU ?_
    | refine g_T (by intro hb; simp only [go_sem, Nat.reduceEqDiff, Nat.reduceAdd, Nat.reduceLeDiff, hb]; first | done | rfl) ?_
    | refine g_F (by intro hb; simp only [go_sem, Nat.reduceEqDiff, Nat.reduceAdd, Nat.reduceLeDiff, hb]; first | done | rfl) ?_
    | refine g_gT (by intro hb hc; simp only [go_sem, Nat.reduceEqDiff, Nat.reduceAdd, Nat.reduceLeDiff, hb, hc]; first | done | rfl) ?_
    | refine g_gF (by intro hb hc; simp only [go_sem, Nat.reduceEqDiff, Nat.reduceAdd, Nat.reduceLeDiff, hb, hc]; first | done | rfl) ?_
    | refine g_skT ?_
    | refine g_skF ?_
    | refine g_goT (by simp only [go_sem, Nat.reduceEqDiff, Nat.reduceAdd, Nat.reduceLeDiff]; first | done | rfl) ?_
    | refine g_goF (by simp only [go_sem, Nat.reduceEqDiff, Nat.reduceAdd, Nat.reduceLeDiff]; first | done | rfl) ?_
    | refine w_condT (by simp only [go_sem, Nat.reduceEqDiff, Nat.reduceAdd, Nat.reduceLeDiff]; first | done | rfl) ?_
    | refine w_condF (by simp only [go_sem, Nat.reduceEqDiff, Nat.reduceAdd, Nat.reduceLeDiff]; first | done | rfl) ?_
    | refine w_skip ?_
    | refine w_exit ?_
    | refine w_ret ?_
    )
    exact ⟨.inr rfl, by simp only [go_sem, Nat.reduceEqDiff, Nat.reduceAdd, Nat.reduceLeDiff, retOf, resOf, found_none h3]⟩
  · refine ⟨?_, ?_, fun j hj => by omega⟩ <;> simp only [go_sem, Nat.reduceEqDiff, Nat.reduceAdd, Nat.reduceLeDiff]
  · simp only [go_sem, Nat.reduceEqDiff, Nat.reduceAdd, Nat.reduceLeDiff]
  · simp only [go_sem, Nat.reduceEqDiff, Nat.reduceAdd, Nat.reduceLeDiff, hll]

theorem a50 (X : Has lx env) {l : List ByteArray} (hn : l.length ≤ 9223372036854775807) (s : ByteArray) : AV env 50 [.sl (strs l), .sc (.string s)] = some (.sc (.bool (hasN l s))) := by
  have h := a37 X hn s
  refine AV_wp (X (50, d50) (by simp [lx])) rfl ?_
  (repeat' first
    | refine w_seq ?_
    | refine w_rg ?_
    | refine wo_nil ?_
    | refine s_plain (by simp only [go_sem, Nat.reduceEqDiff, Nat.reduceAdd, Nat.reduceLeDiff, h]; first | done | rfl) ?_
    | refine s_void (by simp only [go_sem, Nat.reduceEqDiff, Nat.reduceAdd, Nat.reduceLeDiff, h]; first | done | rfl) ?_
    | refine s_guard (by simp only [go_sem, Nat.reduceEqDiff, Nat.reduceAdd, Nat.reduceLeDiff, h]; first | done | rfl) ?_
    | refine g_skU ?_
    | refine g_T (by intro hb; simp only [go_sem, Nat.reduceEqDiff, Nat.reduceAdd, Nat.reduceLeDiff, h, hb]; first | done | rfl) ?_
    | refine g_F (by intro hb; simp only [go_sem, Nat.reduceEqDiff, Nat.reduceAdd, Nat.reduceLeDiff, h, hb]; first | done | rfl) ?_
    | refine g_gT (by intro hb hc; simp only [go_sem, Nat.reduceEqDiff, Nat.reduceAdd, Nat.reduceLeDiff, h, hb, hc]; first | done | rfl) ?_
    | refine g_gF (by intro hb hc; simp only [go_sem, Nat.reduceEqDiff, Nat.reduceAdd, Nat.reduceLeDiff, h, hb, hc]; first | done | rfl) ?_
    | refine g_skT ?_
    | refine g_skF ?_
    | refine g_goT (by simp only [go_sem, Nat.reduceEqDiff, Nat.reduceAdd, Nat.reduceLeDiff, h]; first | done | rfl) ?_
    | refine g_goF (by simp only [go_sem, Nat.reduceEqDiff, Nat.reduceAdd, Nat.reduceLeDiff, h]; first | done | rfl) ?_
    | refine w_condT (by simp only [go_sem, Nat.reduceEqDiff, Nat.reduceAdd, Nat.reduceLeDiff, h]; first | done | rfl) ?_
    | refine w_condF (by simp only [go_sem, Nat.reduceEqDiff, Nat.reduceAdd, Nat.reduceLeDiff, h]; first | done | rfl) ?_
    | refine w_skip ?_
    | refine w_exit ?_
    | refine w_ret ?_
    )
  exact ⟨.inr rfl, by simp only [go_sem, Nat.reduceEqDiff, Nat.reduceAdd, Nat.reduceLeDiff, retOf, resOf]; rfl⟩

theorem a247 (X : Has lx env) {l : List ByteArray} (hn : l.length ≤ 9223372036854775807) (m : Lab) : AV env 247 [lab m, .fp [.sl (strs l)] 0 0] = some (.sc (.bool (!hasN l m.1))) := by
  have h := a50 X hn m.1
  refine AV_wp (X (247, d247) (by simp [lx])) rfl ?_
  unfold lab
  (repeat' first
    | refine w_seq ?_
    | refine w_rg ?_
    | refine wo_nil ?_
    | refine s_plain (by simp only [go_sem, Nat.reduceEqDiff, Nat.reduceAdd, Nat.reduceLeDiff, h]; first | done | rfl) ?_
    | refine s_void (by simp only [go_sem, Nat.reduceEqDiff, Nat.reduceAdd, Nat.reduceLeDiff, h]; first | done | rfl) ?_
    | refine s_guard (by simp only [go_sem, Nat.reduceEqDiff, Nat.reduceAdd, Nat.reduceLeDiff, h]; first | done | rfl) ?_
    | refine g_skU ?_
    | refine g_T (by intro hb; simp only [go_sem, Nat.reduceEqDiff, Nat.reduceAdd, Nat.reduceLeDiff, h, hb]; first | done | rfl) ?_
    | refine g_F (by intro hb; simp only [go_sem, Nat.reduceEqDiff, Nat.reduceAdd, Nat.reduceLeDiff, h, hb]; first | done | rfl) ?_
    | refine g_gT (by intro hb hc; simp only [go_sem, Nat.reduceEqDiff, Nat.reduceAdd, Nat.reduceLeDiff, h, hb, hc]; first | done | rfl) ?_
    | refine g_gF (by intro hb hc; simp only [go_sem, Nat.reduceEqDiff, Nat.reduceAdd, Nat.reduceLeDiff, h, hb, hc]; first | done | rfl) ?_
    | refine g_skT ?_
    | refine g_skF ?_
    | refine g_goT (by simp only [go_sem, Nat.reduceEqDiff, Nat.reduceAdd, Nat.reduceLeDiff, h]; first | done | rfl) ?_
    | refine g_goF (by simp only [go_sem, Nat.reduceEqDiff, Nat.reduceAdd, Nat.reduceLeDiff, h]; first | done | rfl) ?_
    | refine w_condT (by simp only [go_sem, Nat.reduceEqDiff, Nat.reduceAdd, Nat.reduceLeDiff, h]; first | done | rfl) ?_
    | refine w_condF (by simp only [go_sem, Nat.reduceEqDiff, Nat.reduceAdd, Nat.reduceLeDiff, h]; first | done | rfl) ?_
    | refine w_skip ?_
    | refine w_exit ?_
    | refine w_ret ?_
    )
  exact ⟨.inr rfl, by simp only [go_sem, Nat.reduceEqDiff, Nat.reduceAdd, Nat.reduceLeDiff, retOf, resOf]⟩

def cutN (l : List ByteArray) : List ByteArray := (l.take (min l.length 10)).map (cutS 70)
theorem cutN_len (l : List ByteArray) : (cutN l).length = min l.length 10 := by simp [cutN]

theorem a243 (X : Has lx env) {l : List ByteArray} (hn : l.length ≤ 9223372036854775807) : AV env 243 [.sl (strs l)] = some (.sl (strs (cutN l))) := by
  refine AV_wp (X (243, d243) (by simp [lx])) rfl ?_
  have hll := strs_len l
  have hall : (strs l).all (fun x => (cellsOf x).length == 1) = true := by
    rw [List.all_eq_true]
    intro x hx
    simp only [strs, List.mem_map] at hx
    obtain ⟨m, _, rfl⟩ := hx
    rfl
  (repeat' first
    | refine w_seq ?_
    | refine w_rg ?_
    | refine wo_nil ?_
    | refine s_plain (by simp only [go_sem, Nat.reduceEqDiff, Nat.reduceAdd, Nat.reduceLeDiff, hll, mn2]; first | done | rfl) ?_
    | refine s_void (by simp only [go_sem, Nat.reduceEqDiff, Nat.reduceAdd, Nat.reduceLeDiff, hll, mn2]; first | done | rfl) ?_
    | refine s_guard (by simp only [go_sem, Nat.reduceEqDiff, Nat.reduceAdd, Nat.reduceLeDiff, hll, mn2]; first | done | rfl) ?_
    | refine g_skU ?_
    | refine g_T (by intro hb; simp only [go_sem, Nat.reduceEqDiff, Nat.reduceAdd, Nat.reduceLeDiff, hll, mn2, hb]; first | done | rfl) ?_
    | refine g_F (by intro hb; simp only [go_sem, Nat.reduceEqDiff, Nat.reduceAdd, Nat.reduceLeDiff, hll, mn2, hb]; first | done | rfl) ?_
    | refine g_gT (by intro hb hc; simp only [go_sem, Nat.reduceEqDiff, Nat.reduceAdd, Nat.reduceLeDiff, hll, mn2, hb, hc]; first | done | rfl) ?_
    | refine g_gF (by intro hb hc; simp only [go_sem, Nat.reduceEqDiff, Nat.reduceAdd, Nat.reduceLeDiff, hll, mn2, hb, hc]; first | done | rfl) ?_
    | refine g_skT ?_
    | refine g_skF ?_
    | refine g_goT (by simp only [go_sem, Nat.reduceEqDiff, Nat.reduceAdd, Nat.reduceLeDiff, hll, mn2]; first | done | rfl) ?_
    | refine g_goF (by simp only [go_sem, Nat.reduceEqDiff, Nat.reduceAdd, Nat.reduceLeDiff, hll, mn2]; first | done | rfl) ?_
    )
  refine s_plain (v := .sl ((strs l).take (min l.length 10))) (σ' := St.nil) (by
    simp only [↓e_slcL]
    have h6 : pa _ (.t 6) = .sl (strs l) := (by simp only [go_sem, Nat.reduceEqDiff, Nat.reduceAdd, Nat.reduceLeDiff] : pa ((((((((frOf [PV.sl (strs l)]).set 2 PV.em).set 3 PV.em).set 6 (PV.sl (strs l))).set 7 (PV.sl (strs l))).set 8 (PV.sc (Value.int IntKind.i64 l.length))).set 9 (PV.sc (Value.int IntKind.i64 (min (l.length : Int) 10))))) (.t 6) = .sl (strs l))
    rw [h6, slcL_cut _ 9 10 1 (strs l) hall (by simp only [go_sem, Nat.reduceEqDiff, Nat.reduceAdd, Nat.reduceLeDiff, hll]; rfl), hll]
    rfl) ?_
  have hlt : ((strs l).take (min l.length 10)).length = min l.length 10 := by rw [List.length_take, hll]; omega
  (repeat' first
    | refine w_seq ?_
    | refine w_rg ?_
    | refine wo_nil ?_
    | refine s_plain (by simp only [go_sem, Nat.reduceEqDiff, Nat.reduceAdd, Nat.reduceLeDiff, hlt]; first | done | rfl) ?_
    | refine s_void (by simp only [go_sem, Nat.reduceEqDiff, Nat.reduceAdd, Nat.reduceLeDiff, hlt]; first | done | rfl) ?_
    | refine s_guard (by simp only [go_sem, Nat.reduceEqDiff, Nat.reduceAdd, Nat.reduceLeDiff, hlt]; first | done | rfl) ?_
    | refine g_skU ?_
    | refine g_T (by intro hb; simp only [go_sem, Nat.reduceEqDiff, Nat.reduceAdd, Nat.reduceLeDiff, hlt, hb]; first | done | rfl) ?_
    | refine g_F (by intro hb; simp only [go_sem, Nat.reduceEqDiff, Nat.reduceAdd, Nat.reduceLeDiff, hlt, hb]; first | done | rfl) ?_
    | refine g_gT (by intro hb hc; simp only [go_sem, Nat.reduceEqDiff, Nat.reduceAdd, Nat.reduceLeDiff, hlt, hb, hc]; first | done | rfl) ?_
    | refine g_gF (by intro hb hc; simp only [go_sem, Nat.reduceEqDiff, Nat.reduceAdd, Nat.reduceLeDiff, hlt, hb, hc]; first | done | rfl) ?_
    | refine g_skT ?_
    | refine g_skF ?_
    | refine g_goT (by simp only [go_sem, Nat.reduceEqDiff, Nat.reduceAdd, Nat.reduceLeDiff, hlt]; first | done | rfl) ?_
    | refine g_goF (by simp only [go_sem, Nat.reduceEqDiff, Nat.reduceAdd, Nat.reduceLeDiff, hlt]; first | done | rfl) ?_
    )
  refine w_block (w_range (min l.length 10) (by omega) (fun i fr σ => fr 10 = .sl ((strs l).take (min l.length 10)) ∧ Gat σ [23] 1 false (fr 3) ((strs (cutN l)).take i)) (by decide) ?_ ?_ ?_ _ _ ?_ ?_ ?_)
  · rintro i fr σ v ⟨h0, h1⟩
    refine ⟨⟨?_, ?_⟩, ⟨?_, ?_⟩, ⟨?_, ?_⟩⟩ <;> simp only [go_sem, Nat.reduceEqDiff, Nat.reduceAdd, Nat.reduceLeDiff, h0, h1]
  · rintro i fr σ hi ⟨h10, hg⟩ hti htn
    have hil : i < l.length := by omega
    have hx : ((strs l).take (min l.length 10))[i]? = some (.sc (.string l[i])) := by
      rw [List.getElem?_take, if_pos hi]
      exact strs_at (List.getElem?_eq_getElem hil)
    have e1 : (0 : Int) ≤ (i : Int) ∧ (i : Int) < ((min l.length 10 : Nat) : Int) := by omega
    refine w_block ?_
    have b70 : ∀ (n : Nat) (k : IntKind), bound n (.sc (.int k (min (n : Int) 70))) = some (min n 70) := fun n k => bound_min rfl
    (repeat' first
    | refine w_seq ?_
    | refine w_rg ?_
    | refine wo_nil ?_
    | refine s_plain (by simp only [go_sem, Nat.reduceEqDiff, Nat.reduceAdd, Nat.reduceLeDiff, h10, hti, e1, hlt, Int.toNat_natCast, hx, mn2, b70, fillE, List.replicate_succ, List.replicate_zero, List.set_cons_zero]; first | done | rfl) ?_
    | refine s_void (by simp only [go_sem, Nat.reduceEqDiff, Nat.reduceAdd, Nat.reduceLeDiff, h10, hti, e1, hlt, Int.toNat_natCast, hx, mn2, b70, fillE, List.replicate_succ, List.replicate_zero, List.set_cons_zero]; first | done | rfl) ?_
    | refine s_guard (by simp only [go_sem, Nat.reduceEqDiff, Nat.reduceAdd, Nat.reduceLeDiff, h10, hti, e1, hlt, Int.toNat_natCast, hx, mn2, b70, fillE, List.replicate_succ, List.replicate_zero, List.set_cons_zero]; first | done | rfl) ?_
    | refine g_skU ?_
    | refine g_T (by intro hb; simp only [go_sem, Nat.reduceEqDiff, Nat.reduceAdd, Nat.reduceLeDiff, h10, hti, e1, hlt, Int.toNat_natCast, hx, mn2, b70, fillE, List.replicate_succ, List.replicate_zero, List.set_cons_zero, hb]; first | done | rfl) ?_
    | refine g_F (by intro hb; simp only [go_sem, Nat.reduceEqDiff, Nat.reduceAdd, Nat.reduceLeDiff, h10, hti, e1, hlt, Int.toNat_natCast, hx, mn2, b70, fillE, List.replicate_succ, List.replicate_zero, List.set_cons_zero, hb]; first | done | rfl) ?_
    | refine g_gT (by intro hb hc; simp only [go_sem, Nat.reduceEqDiff, Nat.reduceAdd, Nat.reduceLeDiff, h10, hti, e1, hlt, Int.toNat_natCast, hx, mn2, b70, fillE, List.replicate_succ, List.replicate_zero, List.set_cons_zero, hb, hc]; first | done | rfl) ?_
    | refine g_gF (by intro hb hc; simp only [go_sem, Nat.reduceEqDiff, Nat.reduceAdd, Nat.reduceLeDiff, h10, hti, e1, hlt, Int.toNat_natCast, hx, mn2, b70, fillE, List.replicate_succ, List.replicate_zero, List.set_cons_zero, hb, hc]; first | done | rfl) ?_
    | refine g_skT ?_
    | refine g_skF ?_
    | refine g_goT (by simp only [go_sem, Nat.reduceEqDiff, Nat.reduceAdd, Nat.reduceLeDiff, h10, hti, e1, hlt, Int.toNat_natCast, hx, mn2, b70, fillE, List.replicate_succ, List.replicate_zero, List.set_cons_zero]; first | done | rfl) ?_
    | refine g_goF (by simp only [go_sem, Nat.reduceEqDiff, Nat.reduceAdd, Nat.reduceLeDiff, h10, hti, e1, hlt, Int.toNat_natCast, hx, mn2, b70, fillE, List.replicate_succ, List.replicate_zero, List.set_cons_zero]; first | done | rfl) ?_
    )
    have hL : (strs (cutN l)).take (i + 1) = (strs (cutN l)).take i ++ [.sc (.string (cutS 70 l[i]))] := by
      have hlen : i < (strs (cutN l)).length := by rw [strs_len, cutN_len]; exact hi
      rw [List.take_succ_eq_append_getElem hlen]
      congr 1
      simp [strs, cutN]
    have hlen : ((strs (cutN l)).take i).length ≤ 10 := by rw [List.length_take]; omega
    refine s_gatL (os := [23]) (ys := [.sc (.string (cutS 70 l[i]))]) (by simp only [go_sem, Nat.reduceEqDiff, Nat.reduceAdd, Nat.reduceLeDiff]; exact hg.new _) (by simp only [go_sem, Nat.reduceEqDiff, Nat.reduceAdd, Nat.reduceLeDiff, srcOf, elemsOf]; first | done | rfl) rfl (by simp only [List.length_cons, List.length_nil]; omega) ?_
    intro p σ' hg2 _
    rw [← hL] at hg2
    (repeat' first
    | refine w_seq ?_
    | refine w_rg ?_
    | refine wo_nil ?_
    | refine s_plain (by simp only [go_sem, Nat.reduceEqDiff, Nat.reduceAdd, Nat.reduceLeDiff]; first | done | rfl) ?_
    | refine s_void (by simp only [go_sem, Nat.reduceEqDiff, Nat.reduceAdd, Nat.reduceLeDiff]; first | done | rfl) ?_
    | refine s_guard (by simp only [go_sem, Nat.reduceEqDiff, Nat.reduceAdd, Nat.reduceLeDiff]; first | done | rfl) ?_
    | refine g_skU ?_
    | refine g_T (by intro hb; simp only [go_sem, Nat.reduceEqDiff, Nat.reduceAdd, Nat.reduceLeDiff, hb]; first | done | rfl) ?_
    | refine g_F (by intro hb; simp only [go_sem, Nat.reduceEqDiff, Nat.reduceAdd, Nat.reduceLeDiff, hb]; first | done | rfl) ?_
    | refine g_gT (by intro hb hc; simp only [go_sem, Nat.reduceEqDiff, Nat.reduceAdd, Nat.reduceLeDiff, hb, hc]; first | done | rfl) ?_
    | refine g_gF (by intro hb hc; simp only [go_sem, Nat.reduceEqDiff, Nat.reduceAdd, Nat.reduceLeDiff, hb, hc]; first | done | rfl) ?_
    | refine g_skT ?_
    | refine g_skF ?_
    | refine g_goT (by simp only [go_sem, Nat.reduceEqDiff, Nat.reduceAdd, Nat.reduceLeDiff]; first | done | rfl) ?_
    | refine g_goF (by simp only [go_sem, Nat.reduceEqDiff, Nat.reduceAdd, Nat.reduceLeDiff]; first | done | rfl) ?_
    )
    refine ⟨⟨?_, ?_⟩, ?_, ?_⟩
    · simp only [go_sem, Nat.reduceEqDiff, Nat.reduceAdd, Nat.reduceLeDiff, h10]
    · simp only [go_sem, Nat.reduceEqDiff, Nat.reduceAdd, Nat.reduceLeDiff]; exact hg2
    · simp only [go_sem, Nat.reduceEqDiff, Nat.reduceAdd, Nat.reduceLeDiff, hti]
    · simp only [go_sem, Nat.reduceEqDiff, Nat.reduceAdd, Nat.reduceLeDiff, htn]
  · rintro fr σ ⟨h10, hg⟩
    try simp only [if_true]
    rw [List.take_of_length_le (by rw [strs_len, cutN_len]; exact Nat.le_refl _)] at hg
    have hfz := hg.fz (strs_fz σ _)
    (repeat' first
    | refine w_seq ?_
    | refine w_rg ?_
    | refine wo_nil ?_
    | refine s_plain (by simp only [go_sem, Nat.reduceEqDiff, Nat.reduceAdd, Nat.reduceLeDiff]; first | done | rfl) ?_
    | refine s_void (by simp only [go_sem, Nat.reduceEqDiff, Nat.reduceAdd, Nat.reduceLeDiff]; first | done | rfl) ?_
    | refine s_guard (by simp only [go_sem, Nat.reduceEqDiff, Nat.reduceAdd, Nat.reduceLeDiff]; first | done | rfl) ?_
    | refine g_skU ?_
    | refine g_T (by intro hb; simp only [go_sem, Nat.reduceEqDiff, Nat.reduceAdd, Nat.reduceLeDiff, hb]; first | done | rfl) ?_
    | refine g_F (by intro hb; simp only [go_sem, Nat.reduceEqDiff, Nat.reduceAdd, Nat.reduceLeDiff, hb]; first | done | rfl) ?_
    | refine g_gT (by intro hb hc; simp only [go_sem, Nat.reduceEqDiff, Nat.reduceAdd, Nat.reduceLeDiff, hb, hc]; first | done | rfl) ?_
    | refine g_gF (by intro hb hc; simp only [go_sem, Nat.reduceEqDiff, Nat.reduceAdd, Nat.reduceLeDiff, hb, hc]; first | done | rfl) ?_
    | refine g_skT ?_
    | refine g_skF ?_
    | refine g_goT (by simp only [go_sem, Nat.reduceEqDiff, Nat.reduceAdd, Nat.reduceLeDiff]; first | done | rfl) ?_
    | refine g_goF (by simp only [go_sem, Nat.reduceEqDiff, Nat.reduceAdd, Nat.reduceLeDiff]; first | done | rfl) ?_
    | refine w_condT (by simp only [go_sem, Nat.reduceEqDiff, Nat.reduceAdd, Nat.reduceLeDiff]; first | done | rfl) ?_
    | refine w_condF (by simp only [go_sem, Nat.reduceEqDiff, Nat.reduceAdd, Nat.reduceLeDiff]; first | done | rfl) ?_
    | refine w_skip ?_
    | refine w_exit ?_
    | refine w_ret ?_
    )
    exact ⟨.inr rfl, by simp only [go_sem, Nat.reduceEqDiff, Nat.reduceAdd, Nat.reduceLeDiff, retOf, resOf, hfz]⟩
  · exact ⟨by simp only [go_sem, Nat.reduceEqDiff, Nat.reduceAdd, Nat.reduceLeDiff], by simp only [go_sem, Nat.reduceEqDiff, Nat.reduceAdd, Nat.reduceLeDiff]; exact .em⟩
  · simp only [go_sem, Nat.reduceEqDiff, Nat.reduceAdd, Nat.reduceLeDiff]
  · simp only [go_sem, Nat.reduceEqDiff, Nat.reduceAdd, Nat.reduceLeDiff, hlt]

def keepL (l : List Lab) (ns : List ByteArray) : List Lab := l.filter fun m => hasN ns m.1

/-- Of the first i names: is one of them s? -/
def anyN (ns : List ByteArray) (s : ByteArray) (i : Nat) : Bool := (ns.take i).any fun n => n.toList == s.toList

theorem anyN_succ {ns : List ByteArray} {s : ByteArray} {i : Nat} (hi : i < ns.length) : anyN ns s (i + 1) = (anyN ns s i || (ns[i].toList == s.toList)) := by
  unfold anyN
  rw [List.take_succ_eq_append_getElem hi, List.any_append]
  simp

theorem anyN_all (ns : List ByteArray) (s : ByteArray) : anyN ns s ns.length = hasN ns s := by
  unfold anyN
  rw [List.take_of_length_le (Nat.le_refl _), Bool.eq_iff_iff]
  unfold hasN
  rw [List.any_eq_true, decide_eq_true_iff]
  constructor
  · rintro ⟨n, hn, he⟩
    obtain ⟨i, hi, rfl⟩ := List.getElem_of_mem hn
    obtain ⟨j, h1, _⟩ := found_is (p := isS ns s) hi (by unfold isS; rw [nthS_eq hi]; simp only [beq_iff_eq] at he ⊢; exact he.symm)
    rw [h1]; omega
  · intro h
    obtain ⟨i, h1, h2⟩ := found_lt (p := isS ns s) (n := ns.length) (by omega)
    refine ⟨ns[i], List.getElem_mem h2, ?_⟩
    have hp : isS ns s i = true := by
      unfold found at h1
      cases hf : (List.range ns.length).find? (isS ns s) with
      | none => rw [hf] at h1; simp at h1
      | some k =>
        rw [hf] at h1
        simp only [Int.natCast_inj] at h1
        have := List.find?_some hf
        rwa [h1] at this
    unfold isS at hp
    rw [nthS_eq h2] at hp
    simp only [beq_iff_eq] at hp ⊢
    exact hp.symm

end
end Go.Proofs.YtjijlmfhnkipmaaDoorPv
