/-
Sets laid over one another; the labels of a rule's alert.
-/
import Derived.Test.YtjijlmfhnkipmaaDoorPvSp
namespace Go.Proofs.YtjijlmfhnkipmaaDoorPv
open Go
set_option linter.unusedSimpArgs false
set_option linter.unusedVariables false
set_option maxHeartbeats 4000000
attribute [local go_sem ↓] e_mv e_pick e_bin e_eqs e_beq e_un e_cvi e_str e_s2b e_b2s e_box e_build e_bsl e_ld e_st e_nck e_mkf e_slcS e_slcL e_fa e_fld e_ia e_iaa e_ix e_ixa e_ext e_lenS e_lenL e_mnmx e_app e_msl e_clr e_call e_callv pa_t pa_c pa_f slcSP_str hiOf_some hiOf_none loOf_some loOf_none set_eq set_ne
attribute [local go_sem] pv pv1 simple frOf_0 frOf_1 frOf_2 frOf_3 frOf_4 frOf_5 ne_eq not_false_eq_true if_true Bool.false_eq_true if_false pbin punary Option.map_some Option.bind_some pick_and pick_or opt_true Bool.true_and Bool.and_self Bool.and_true Bool.true_or Bool.false_or Bool.not_true Bool.not_false callE pcall_eq List.map_cons List.map_nil List.append_nil List.nil_append List.cons_append mapM_cons' mapM_nil' dep_eq fz_sc fz_sl fz_em fz_fn fz_fp fz_agg fz_bx fz_ob Nat.lt_irrefl Nat.zero_lt_one Nat.lt_add_one flat clL cl Bool.or_true okc cells_agg cells_sc cells_sl cells_em cells_ob cells_fn cells_bx cells_fp List.length_cons List.length_nil Nat.zero_add and_self true_and and_true new_m new_c put_m put_c nil_m nil_c deref List.getElem?_cons_zero List.getElem?_cons_succ List.drop_zero List.drop_succ_cons List.take_succ_cons List.take_zero Nat.le_refl false_and and_false
set_option maxRecDepth 8000

/-- transhipment/label.With -/
def d116 : Def := (.code 2 [.tmp 4, .tmp 5] (.seq (.rg false [⟨.some 4, .none, .mv (.c (.slice .none 0 0))⟩, ⟨.some 5, .none, .mv (.c (.int .i64 0))⟩]) (.seq (.seq (.rg false [⟨.some 9, .none, .mv (.t 0)⟩, ⟨.some 10, .none, .call 113 .pure [.t 9]⟩, ⟨.some 11, .none, .un .not (.t 10)⟩, ⟨.some 12, .none, .mv (.t 11)⟩, ⟨.some 13, .some (12, false), .mv (.t 1)⟩, ⟨.some 14, .some (12, false), .call 113 .pure [.t 13]⟩, ⟨.some 15, .some (12, false), .un .not (.t 14)⟩, ⟨.some 16, .none, .pick (.t 12) (.c (.bool true)) (.t 15)⟩]) (.cond (.t 16) (.seq (.rg false [⟨.some 4, .none, .mv (.c (.slice .none 0 0))⟩, ⟨.some 5, .none, .mv (.c (.int .i64 1))⟩]) .ret) .skip)) (.seq (.rg false [⟨.some 17, .none, .mv (.t 1)⟩, ⟨.some 18, .none, .call 128 .opn [.t 17]⟩, ⟨.some 6, .none, .mv (.t 18)⟩]) (.seq (.seq (.rg false [⟨.some 19, .none, .mv (.t 0)⟩, ⟨.some 20, .none, .lenL (.t 19)⟩, ⟨.some 21, .none, .mv (.c (.int .i64 0))⟩]) (.block 0 (.loop (.seq (.rg false [⟨.some 22, .none, .bin .lss (.t 21) (.t 20)⟩]) (.seq (.cond (.t 22) .skip (.exit 0)) (.seq (.block 1 (.seq (.rg false [⟨.some 23, .none, .ia 2 (.t 19) (.t 21)⟩, ⟨.some 24, .none, .ld (.some 2) (.t 23)⟩, ⟨.some 8, .none, .box (.c (.agg #[.string ⟨#[]⟩, .string ⟨#[]⟩]))⟩, ⟨.none, .none, .st 2 (.t 8) (.t 24)⟩]) (.seq (.rg false [⟨.some 25, .none, .mv (.t 1)⟩, ⟨.some 26, .none, .fa 0 (.t 8)⟩, ⟨.some 27, .none, .ld .none (.t 26)⟩, ⟨.some 28, .none, .call 114 .pure [.t 25, .t 27]⟩, ⟨.some 29, .none, .bin .eql (.t 28) (.c (.string ⟨#[]⟩))⟩]) (.cond (.t 29) (.rg false [⟨.some 30, .none, .mv (.t 6)⟩, ⟨.some 31, .none, .ld (.some 2) (.t 8)⟩, ⟨.some 32, .none, .bsl 2 (.agg #[.string ⟨#[]⟩, .string ⟨#[]⟩]) 1 [(0, .t 31)]⟩, ⟨.some 33, .none, .app 2 32 false (.t 30) (.t 32)⟩, ⟨.some 6, .none, .mv (.t 33)⟩]) .skip)))) (.rg false [⟨.some 34, .none, .bin .add (.t 21) (.c (.int .i64 1))⟩, ⟨.some 21, .none, .mv (.t 34)⟩]))))))) (.seq (.rg false [⟨.some 35, .none, .mv (.t 6)⟩, ⟨.some 36, .none, .call 129 .pure [.t 35]⟩, ⟨.some 37, .none, .ext (.t 36) 0⟩, ⟨.some 38, .none, .ext (.t 36) 1⟩, ⟨.some 4, .none, .mv (.t 37)⟩, ⟨.some 5, .none, .mv (.t 38)⟩]) .ret))))))
/-- transhipment/rules.Labels -/
def d109 : Def := (.code 2 [.tmp 4, .tmp 5] (.seq (.rg false [⟨.some 2, .none, .box (.t 0)⟩, ⟨.some 4, .none, .mv (.c (.slice .none 0 0))⟩, ⟨.some 5, .none, .mv (.c (.int .i64 0))⟩]) (.seq (.seq (.rg false [⟨.some 8, .none, .ld (.some 8) (.t 2)⟩, ⟨.some 9, .none, .call 105 .pure [.t 8]⟩, ⟨.some 10, .none, .un .not (.t 9)⟩]) (.cond (.t 10) (.seq (.rg false [⟨.some 4, .none, .mv (.c (.slice .none 0 0))⟩, ⟨.some 5, .none, .mv (.c (.int .i64 1))⟩]) .ret) .skip)) (.seq (.rg false [⟨.some 12, .none, .mv (.t 1)⟩, ⟨.some 13, .none, .fa 7 (.t 2)⟩, ⟨.some 14, .none, .ld .none (.t 13)⟩, ⟨.some 15, .none, .call 116 .pure [.t 12, .t 14]⟩, ⟨.some 11, .none, .mv (.t 15)⟩, ⟨.some 16, .none, .ext (.t 11) 0⟩, ⟨.some 17, .none, .ext (.t 11) 1⟩, ⟨.some 6, .none, .mv (.t 16)⟩, ⟨.some 7, .none, .mv (.t 17)⟩]) (.seq (.seq (.rg false [⟨.some 18, .none, .mv (.t 7)⟩, ⟨.some 19, .none, .bin .neq (.t 18) (.c (.int .i64 0))⟩]) (.cond (.t 19) (.seq (.rg false [⟨.some 20, .none, .mv (.t 7)⟩, ⟨.some 4, .none, .mv (.c (.slice .none 0 0))⟩, ⟨.some 5, .none, .mv (.t 20)⟩]) .ret) .skip)) (.seq (.rg false [⟨.some 21, .none, .mv (.t 6)⟩, ⟨.some 22, .none, .fa 0 (.t 2)⟩, ⟨.some 23, .none, .ld .none (.t 22)⟩, ⟨.some 24, .none, .build (.agg #[.string ⟨#[]⟩, .string ⟨#[]⟩]) [(0, (1, .c (.string ⟨#[97, 108, 101, 114, 116]⟩))), (1, (1, .t 23))]⟩, ⟨.some 25, .none, .bsl 2 (.agg #[.string ⟨#[]⟩, .string ⟨#[]⟩]) 1 [(0, .t 24)]⟩, ⟨.some 26, .none, .call 116 .pure [.t 21, .t 25]⟩, ⟨.some 27, .none, .ext (.t 26) 0⟩, ⟨.some 28, .none, .ext (.t 26) 1⟩, ⟨.some 4, .none, .mv (.t 27)⟩, ⟨.some 5, .none, .mv (.t 28)⟩]) .ret))))))

def lq : List (Nat × Def) := [(116, d116), (109, d109), (128, .prim (cloneF 2 32))]
def lq0 : List (Nat × Def) := [(116, d116), (128, .prim (cloneF 2 32))]
theorem lq_lq0 {env : Nat → Option Def} (H : Has lq env) : Has lq0 env := fun p hp => H p (by
  simp only [lq0, List.mem_cons, List.not_mem_nil, or_false] at hp
  rcases hp with rfl | rfl <;> simp [lq])

section
variable {env : Nat → Option Def} {fr : Fr} {σ : St} {K : Fr → St → Prop} {Q : X → Fr → St → Prop}

theorem call_pure {f : Nat} {args as : List PV} {r : PV} (h1 : args.mapM (fz σ dep) = some as) (h2 : AV env f as = some r) : ∃ σ', callE (EV env) f .pure args σ = some (r, σ') := by
  simp only [callE, pcall_eq, h1, Option.bind_some, h2, Bool.false_eq_true, if_false]
  split
  · exact ⟨_, rfl⟩
  · exact ⟨_, rfl⟩

/-- A call of which only the answer matters. -/
theorem s_call {d f : Nat} {args : List PA} {as : List PV} {r : PV} {ops : List POp} (h1 : (args.map (pa fr)).mapM (fz σ dep) = some as) (h2 : AV env f as = some r) (h : ∀ σ', Wos env ops K (fr.set d r) σ') :
    Wos env (⟨some d, none, .call f .pure args⟩ :: ops) K fr σ := by
  obtain ⟨σ', h3⟩ := call_pure h1 h2
  exact s_plain (v := r) (σ' := σ') h3 (h σ')

theorem Gat.mono {os os' : List Nat} {es : Nat} {w : Bool} {p : PV} {xs : List PV} (h : Gat σ os es w p xs) (ho : ∀ o ∈ os, o ∈ os') : Gat σ os' es false p xs := by
  rcases h with h | ⟨o, g, wr, h0, h1, h2, h3, h4, _⟩
  · exact .inl h
  · exact .inr ⟨o, g, wr, ho o h0, h1, h2, h3, h4, fun h => by cases h⟩

theorem a128 (V : Has lq0 env) {l : List Lab} (hn : l.length ≤ 1000000) : ∃ r σ', EV env 128 [.sl (labs l)] σ = some (r, σ') ∧ Gat σ' [7] 2 true r (labs l) := by
  have h := V (128, .prim (cloneF 2 32)) (by simp [lq0])
  have hall : ((labs l).all fun y => okc y && (cellsOf y).length == 2) = true := by
    rw [List.all_eq_true]
    intro x hx
    simp only [labs, List.mem_map] at hx
    obtain ⟨m, _, rfl⟩ := hx
    rfl
  have hb : decide ((labs l).length * 32 ≤ 70368744177664) = true := decide_eq_true (by rw [labs_len]; omega)
  cases hl : labs l with
  | nil =>
    exact ⟨.em, σ, EV_of (n := 1) (by simp only [evF, h]; rfl), .em⟩
  | cons x r =>
    refine ⟨.ob 7 (σ.c 7) 2 0 (labs l).length, σ.new 7 ⟨2, labs l, true, true⟩, EV_of (n := 1) ?_, .inr ⟨7, σ.c 7, true, by simp, by rw [hl], by rw [← hl]; simp [new_m], by simp [new_c], by simp, fun _ => rfl⟩⟩
    rw [← hl]
    have he : (labs l).isEmpty = false := by rw [hl]; rfl
    simp only [evF, h, cloneF, hall, hb, he, Bool.and_self, if_true, Bool.false_eq_true, if_false]

theorem right_len {l : List Lab} (h : rightL l = true) : l.length ≤ 8 := by
  unfold rightL at h
  simp only [Bool.and_eq_true, decide_eq_true_eq] at h
  omega

theorem right_smalls {l : List Lab} (h : rightL l = true) : Smalls l := by
  intro m hm
  obtain ⟨i, hi⟩ := List.getElem?_of_mem hm
  have hlt := (List.getElem?_eq_some_iff.1 hi).1
  have hmay := rightL_may h hlt
  have hn : nth l i = m := by unfold nth; rw [hi]; rfl
  rw [hn] at hmay
  unfold mayB nameB valueB at hmay
  simp only [Bool.and_eq_true, decide_eq_true_eq] at hmay
  unfold Small
  omega

def missB (over : List Lab) (m : Lab) : Bool := (getB over m.1).toList == (⟨#[]⟩ : ByteArray).toList
def overL (l over : List Lab) : List Lab := over ++ l.filter (missB over)
def withL (l over : List Lab) : List Lab × Int := if !rightL l || !rightL over then ([], 1) else newL (overL l over)

theorem overL_smalls {l over : List Lab} (h1 : Smalls l) (h2 : Smalls over) : Smalls (overL l over) := by
  intro m hm
  simp only [overL, List.mem_append, List.mem_filter] at hm
  rcases hm with hm | hm
  · exact h2 m hm
  · exact h1 m hm.1

theorem overL_len (l over : List Lab) : (overL l over).length ≤ over.length + l.length := by
  simp only [overL, List.length_append]
  have := List.length_filter_le (missB over) l
  omega

theorem a116 (H : Has la0 env) (G : Has lc env) (O : Has lo env) (P : Has lp env) (V : Has lq0 env) (B : Bits env) {l over : List Lab} (hn : l.length ≤ 9223372036854775807) (hl : Smalls l) (hn' : over.length ≤ 9223372036854775807) (hl' : Smalls over) :
    AV env 116 [.sl (labs l), .sl (labs over)] = some (.tu [.sl (labs (withL l over).1), .sc (.int .i64 (withL l over).2)]) := by
  have hll := labs_len l
  have h1 := a113 H G hn hl
  have h2 := a113 H G hn' hl'
  refine AV_wp (V (116, d116) (by simp [lq0])) rfl ?_
  (repeat' first
    | refine w_seq ?_
    | refine w_rg ?_
    | refine wo_nil ?_
    | refine s_plain (by simp only [go_sem, Nat.reduceEqDiff, Nat.reduceAdd, Nat.reduceLeDiff, h1, h2]; first | done | rfl) ?_
    | refine s_void (by simp only [go_sem, Nat.reduceEqDiff, Nat.reduceAdd, Nat.reduceLeDiff, h1, h2]; first | done | rfl) ?_
    | refine s_guard (by simp only [go_sem, Nat.reduceEqDiff, Nat.reduceAdd, Nat.reduceLeDiff, h1, h2]; first | done | rfl) ?_
    | refine g_skU ?_
    | refine g_T (by intro hb; simp only [go_sem, Nat.reduceEqDiff, Nat.reduceAdd, Nat.reduceLeDiff, h1, h2, hb]; first | done | rfl) ?_
    | refine g_F (by intro hb; simp only [go_sem, Nat.reduceEqDiff, Nat.reduceAdd, Nat.reduceLeDiff, h1, h2, hb]; first | done | rfl) ?_
    | refine g_gT (by intro hb hc; simp only [go_sem, Nat.reduceEqDiff, Nat.reduceAdd, Nat.reduceLeDiff, h1, h2, hb, hc]; first | done | rfl) ?_
    | refine g_gF (by intro hb hc; simp only [go_sem, Nat.reduceEqDiff, Nat.reduceAdd, Nat.reduceLeDiff, h1, h2, hb, hc]; first | done | rfl) ?_
    | refine g_skT ?_
    | refine g_skF ?_
    | refine g_goT (by simp only [go_sem, Nat.reduceEqDiff, Nat.reduceAdd, Nat.reduceLeDiff, h1, h2]; first | done | rfl) ?_
    | refine g_goF (by simp only [go_sem, Nat.reduceEqDiff, Nat.reduceAdd, Nat.reduceLeDiff, h1, h2]; first | done | rfl) ?_
    )
  cases hb : (!rightL l || !rightL over) with
  | true =>
    (repeat' first
    | refine w_seq ?_
    | refine w_rg ?_
    | refine wo_nil ?_
    | refine s_plain (by simp only [go_sem, Nat.reduceEqDiff, Nat.reduceAdd, Nat.reduceLeDiff]; first | done | rfl) ?_
    | refine s_void (by simp only [go_sem, Nat.reduceEqDiff, Nat.reduceAdd, Nat.reduceLeDiff]; first | done | rfl) ?_
    | refine s_guard (by simp only [go_sem, Nat.reduceEqDiff, Nat.reduceAdd, Nat.reduceLeDiff]; first | done | rfl) ?_
    | refine g_skU ?_
    | refine g_T (by intro hb; simp only [go_sem, Nat.reduceEqDiff, Nat.reduceAdd, Nat.reduceLeDiff, hb]; first | done | rfl) ?_
    | refine g_F (by intro hb; simp only [go_sem, Nat.reduceEqDiff, Nat.reduceAdd, Nat.reduceLeDiff, hb]; first | done | rfl) ?_
    | refine g_gT (by intro hb hc; simp only [go_sem, Nat.reduceEqDiff, Nat.reduceAdd, Nat.reduceLeDiff, hb, hc]; first | done | rfl) ?_
    | refine g_gF (by intro hb hc; simp only [go_sem, Nat.reduceEqDiff, Nat.reduceAdd, Nat.reduceLeDiff, hb, hc]; first | done | rfl) ?_
    | refine g_skT ?_
    | refine g_skF ?_
    | refine g_goT (by simp only [go_sem, Nat.reduceEqDiff, Nat.reduceAdd, Nat.reduceLeDiff]; first | done | rfl) ?_
    | refine g_goF (by simp only [go_sem, Nat.reduceEqDiff, Nat.reduceAdd, Nat.reduceLeDiff]; first | done | rfl) ?_
    | refine w_condT (by simp only [go_sem, Nat.reduceEqDiff, Nat.reduceAdd, Nat.reduceLeDiff]; first | done | rfl) ?_
    | refine w_condF (by simp only [go_sem, Nat.reduceEqDiff, Nat.reduceAdd, Nat.reduceLeDiff]; first | done | rfl) ?_
    | refine w_skip ?_
    | refine w_exit ?_
    | refine w_ret ?_
    )
    exact ⟨.inr rfl, by simp only [go_sem, Nat.reduceEqDiff, Nat.reduceAdd, Nat.reduceLeDiff, retOf, resOf]; simp only [withL, hb, if_true]; rfl⟩
  | false =>
    have hb' := hb
    simp only [Bool.or_eq_false_iff, Bool.not_eq_false'] at hb'
    have k1 := right_len hb'.1
    have k2 := right_len hb'.2
    obtain ⟨r, σ1, h128, hg⟩ := a128 (σ := St.nil) V (l := over) (by omega)
    (repeat' first
    | refine w_seq ?_
    | refine w_rg ?_
    | refine wo_nil ?_
    | refine s_plain (by simp only [go_sem, Nat.reduceEqDiff, Nat.reduceAdd, Nat.reduceLeDiff, h128]; first | done | rfl) ?_
    | refine s_void (by simp only [go_sem, Nat.reduceEqDiff, Nat.reduceAdd, Nat.reduceLeDiff, h128]; first | done | rfl) ?_
    | refine s_guard (by simp only [go_sem, Nat.reduceEqDiff, Nat.reduceAdd, Nat.reduceLeDiff, h128]; first | done | rfl) ?_
    | refine g_skU ?_
    | refine g_T (by intro hb; simp only [go_sem, Nat.reduceEqDiff, Nat.reduceAdd, Nat.reduceLeDiff, h128, hb]; first | done | rfl) ?_
    | refine g_F (by intro hb; simp only [go_sem, Nat.reduceEqDiff, Nat.reduceAdd, Nat.reduceLeDiff, h128, hb]; first | done | rfl) ?_
    | refine g_gT (by intro hb hc; simp only [go_sem, Nat.reduceEqDiff, Nat.reduceAdd, Nat.reduceLeDiff, h128, hb, hc]; first | done | rfl) ?_
    | refine g_gF (by intro hb hc; simp only [go_sem, Nat.reduceEqDiff, Nat.reduceAdd, Nat.reduceLeDiff, h128, hb, hc]; first | done | rfl) ?_
    | refine g_skT ?_
    | refine g_skF ?_
    | refine g_goT (by simp only [go_sem, Nat.reduceEqDiff, Nat.reduceAdd, Nat.reduceLeDiff, h128]; first | done | rfl) ?_
    | refine g_goF (by simp only [go_sem, Nat.reduceEqDiff, Nat.reduceAdd, Nat.reduceLeDiff, h128]; first | done | rfl) ?_
    | refine w_condT (by simp only [go_sem, Nat.reduceEqDiff, Nat.reduceAdd, Nat.reduceLeDiff, h128]; first | done | rfl) ?_
    | refine w_condF (by simp only [go_sem, Nat.reduceEqDiff, Nat.reduceAdd, Nat.reduceLeDiff, h128]; first | done | rfl) ?_
    | refine w_skip ?_
    | refine w_exit ?_
    | refine w_ret ?_
    )
    (repeat' first
    | refine w_seq ?_
    | refine w_rg ?_
    | refine wo_nil ?_
    | refine s_plain (by simp only [go_sem, Nat.reduceEqDiff, Nat.reduceAdd, Nat.reduceLeDiff, hll]; first | done | rfl) ?_
    | refine s_void (by simp only [go_sem, Nat.reduceEqDiff, Nat.reduceAdd, Nat.reduceLeDiff, hll]; first | done | rfl) ?_
    | refine s_guard (by simp only [go_sem, Nat.reduceEqDiff, Nat.reduceAdd, Nat.reduceLeDiff, hll]; first | done | rfl) ?_
    | refine g_skU ?_
    | refine g_T (by intro hb; simp only [go_sem, Nat.reduceEqDiff, Nat.reduceAdd, Nat.reduceLeDiff, hll, hb]; first | done | rfl) ?_
    | refine g_F (by intro hb; simp only [go_sem, Nat.reduceEqDiff, Nat.reduceAdd, Nat.reduceLeDiff, hll, hb]; first | done | rfl) ?_
    | refine g_gT (by intro hb hc; simp only [go_sem, Nat.reduceEqDiff, Nat.reduceAdd, Nat.reduceLeDiff, hll, hb, hc]; first | done | rfl) ?_
    | refine g_gF (by intro hb hc; simp only [go_sem, Nat.reduceEqDiff, Nat.reduceAdd, Nat.reduceLeDiff, hll, hb, hc]; first | done | rfl) ?_
    | refine g_skT ?_
    | refine g_skF ?_
    | refine g_goT (by simp only [go_sem, Nat.reduceEqDiff, Nat.reduceAdd, Nat.reduceLeDiff, hll]; first | done | rfl) ?_
    | refine g_goF (by simp only [go_sem, Nat.reduceEqDiff, Nat.reduceAdd, Nat.reduceLeDiff, hll]; first | done | rfl) ?_
    )
    refine w_block (w_range l.length hn (fun i fr σ => fr 1 = .sl (labs over) ∧ fr 19 = .sl (labs l) ∧ Gat σ [7, 33] 2 false (fr 6) (labs (overL (l.take i) over))) (by decide) ?_ ?_ ?_ _ _ ?_ ?_ ?_)
    · rintro i fr σ v ⟨h0, h1, h2⟩
      refine ⟨⟨?_, ?_, ?_⟩, ⟨?_, ?_, ?_⟩, ⟨?_, ?_, ?_⟩⟩ <;> simp only [go_sem, Nat.reduceEqDiff, Nat.reduceAdd, Nat.reduceLeDiff, h0, h1, h2]
    · rintro i fr σ hi ⟨f1, f19, hg⟩ hti htn
      have hy := labs_at (List.getElem?_eq_getElem hi)
      have e1 : (0 : Int) ≤ (i : Int) ∧ (i : Int) < (l.length : Int) := by omega
      have h114 := a114 G (l := over) (n := l[i].1) hn'
      refine w_block ?_
      simp only [lab] at hy
      (repeat' first
    | refine w_seq ?_
    | refine w_rg ?_
    | refine wo_nil ?_
    | refine s_plain (by simp only [go_sem, Nat.reduceEqDiff, Nat.reduceAdd, Nat.reduceLeDiff, f1, f19, hti, e1, hll, Int.toNat_natCast, hy, List.modify_zero_cons, h114]; first | done | rfl) ?_
    | refine s_void (by simp only [go_sem, Nat.reduceEqDiff, Nat.reduceAdd, Nat.reduceLeDiff, f1, f19, hti, e1, hll, Int.toNat_natCast, hy, List.modify_zero_cons, h114]; first | done | rfl) ?_
    | refine s_guard (by simp only [go_sem, Nat.reduceEqDiff, Nat.reduceAdd, Nat.reduceLeDiff, f1, f19, hti, e1, hll, Int.toNat_natCast, hy, List.modify_zero_cons, h114]; first | done | rfl) ?_
    | refine g_skU ?_
    | refine g_T (by intro hb; simp only [go_sem, Nat.reduceEqDiff, Nat.reduceAdd, Nat.reduceLeDiff, f1, f19, hti, e1, hll, Int.toNat_natCast, hy, List.modify_zero_cons, h114, hb]; first | done | rfl) ?_
    | refine g_F (by intro hb; simp only [go_sem, Nat.reduceEqDiff, Nat.reduceAdd, Nat.reduceLeDiff, f1, f19, hti, e1, hll, Int.toNat_natCast, hy, List.modify_zero_cons, h114, hb]; first | done | rfl) ?_
    | refine g_gT (by intro hb hc; simp only [go_sem, Nat.reduceEqDiff, Nat.reduceAdd, Nat.reduceLeDiff, f1, f19, hti, e1, hll, Int.toNat_natCast, hy, List.modify_zero_cons, h114, hb, hc]; first | done | rfl) ?_
    | refine g_gF (by intro hb hc; simp only [go_sem, Nat.reduceEqDiff, Nat.reduceAdd, Nat.reduceLeDiff, f1, f19, hti, e1, hll, Int.toNat_natCast, hy, List.modify_zero_cons, h114, hb, hc]; first | done | rfl) ?_
    | refine g_skT ?_
    | refine g_skF ?_
    | refine g_goT (by simp only [go_sem, Nat.reduceEqDiff, Nat.reduceAdd, Nat.reduceLeDiff, f1, f19, hti, e1, hll, Int.toNat_natCast, hy, List.modify_zero_cons, h114]; first | done | rfl) ?_
    | refine g_goF (by simp only [go_sem, Nat.reduceEqDiff, Nat.reduceAdd, Nat.reduceLeDiff, f1, f19, hti, e1, hll, Int.toNat_natCast, hy, List.modify_zero_cons, h114]; first | done | rfl) ?_
    )
      have hmi : missB over l[i] = ((getB over l[i].1).toList == (⟨#[]⟩ : ByteArray).toList) := rfl
      have htake : l.take (i + 1) = l.take i ++ [l[i]] := List.take_succ_eq_append_getElem hi
      have hov : labs (overL (l.take (i + 1)) over) = labs (overL (l.take i) over) ++ (if missB over l[i] = true then [.agg [.sc (.string l[i].1), .sc (.string l[i].2)]] else []) := by
        rw [htake]
        unfold overL
        rw [List.filter_append]
        cases hm : missB over l[i] <;> simp [labs, hm, lab]
      cases hb : missB over l[i] with
      | true =>
        rw [hb, if_pos rfl] at hov
        rw [hmi] at hb
        refine w_condT (by simp only [go_sem, Nat.reduceEqDiff, Nat.reduceAdd, Nat.reduceLeDiff, hb]) ?_
        (repeat' first
    | refine w_seq ?_
    | refine w_rg ?_
    | refine wo_nil ?_
    | refine s_plain (by simp only [go_sem, Nat.reduceEqDiff, Nat.reduceAdd, Nat.reduceLeDiff, List.drop_zero, fillE, List.replicate_succ, List.replicate_zero, List.set_cons_zero]; first | done | rfl) ?_
    | refine s_void (by simp only [go_sem, Nat.reduceEqDiff, Nat.reduceAdd, Nat.reduceLeDiff, List.drop_zero, fillE, List.replicate_succ, List.replicate_zero, List.set_cons_zero]; first | done | rfl) ?_
    | refine s_guard (by simp only [go_sem, Nat.reduceEqDiff, Nat.reduceAdd, Nat.reduceLeDiff, List.drop_zero, fillE, List.replicate_succ, List.replicate_zero, List.set_cons_zero]; first | done | rfl) ?_
    | refine g_skU ?_
    | refine g_T (by intro hb; simp only [go_sem, Nat.reduceEqDiff, Nat.reduceAdd, Nat.reduceLeDiff, List.drop_zero, fillE, List.replicate_succ, List.replicate_zero, List.set_cons_zero, hb]; first | done | rfl) ?_
    | refine g_F (by intro hb; simp only [go_sem, Nat.reduceEqDiff, Nat.reduceAdd, Nat.reduceLeDiff, List.drop_zero, fillE, List.replicate_succ, List.replicate_zero, List.set_cons_zero, hb]; first | done | rfl) ?_
    | refine g_gT (by intro hb hc; simp only [go_sem, Nat.reduceEqDiff, Nat.reduceAdd, Nat.reduceLeDiff, List.drop_zero, fillE, List.replicate_succ, List.replicate_zero, List.set_cons_zero, hb, hc]; first | done | rfl) ?_
    | refine g_gF (by intro hb hc; simp only [go_sem, Nat.reduceEqDiff, Nat.reduceAdd, Nat.reduceLeDiff, List.drop_zero, fillE, List.replicate_succ, List.replicate_zero, List.set_cons_zero, hb, hc]; first | done | rfl) ?_
    | refine g_skT ?_
    | refine g_skF ?_
    | refine g_goT (by simp only [go_sem, Nat.reduceEqDiff, Nat.reduceAdd, Nat.reduceLeDiff, List.drop_zero, fillE, List.replicate_succ, List.replicate_zero, List.set_cons_zero]; first | done | rfl) ?_
    | refine g_goF (by simp only [go_sem, Nat.reduceEqDiff, Nat.reduceAdd, Nat.reduceLeDiff, List.drop_zero, fillE, List.replicate_succ, List.replicate_zero, List.set_cons_zero]; first | done | rfl) ?_
    )
        have hlen : (labs (overL (l.take i) over)).length ≤ 16 := by
          have := overL_len (l.take i) over
          rw [List.length_take] at this
          rw [labs_len]; omega
        refine s_gat (os := [7, 33]) (w := false) (xs := labs (overL (l.take i) over)) (e := .agg [.sc (.string l[i].1), .sc (.string l[i].2)]) (by simp only [go_sem, Nat.reduceEqDiff, Nat.reduceAdd, Nat.reduceLeDiff]; exact ((hg.new _).put (d := 8) (by decide) _).new _) (by decide) (by simp only [go_sem, Nat.reduceEqDiff, Nat.reduceAdd, Nat.reduceLeDiff, srcOf, elemsOf, List.drop_zero]) rfl rfl (by omega) ?_
        intro p σ' hg2
        simp only [Bool.false_and] at hg2
        rw [← hov] at hg2
        (repeat' first
    | refine w_seq ?_
    | refine w_rg ?_
    | refine wo_nil ?_
    | refine s_plain (by simp only [go_sem, Nat.reduceEqDiff, Nat.reduceAdd, Nat.reduceLeDiff]; first | done | rfl) ?_
    | refine s_void (by simp only [go_sem, Nat.reduceEqDiff, Nat.reduceAdd, Nat.reduceLeDiff]; first | done | rfl) ?_
    | refine s_guard (by simp only [go_sem, Nat.reduceEqDiff, Nat.reduceAdd, Nat.reduceLeDiff]; first | done | rfl) ?_
    | refine g_skU ?_
    | refine g_T (by intro hb; simp only [go_sem, Nat.reduceEqDiff, Nat.reduceAdd, Nat.reduceLeDiff, hb]; first | done | rfl) ?_
    | refine g_F (by intro hb; simp only [go_sem, Nat.reduceEqDiff, Nat.reduceAdd, Nat.reduceLeDiff, hb]; first | done | rfl) ?_
    | refine g_gT (by intro hb hc; simp only [go_sem, Nat.reduceEqDiff, Nat.reduceAdd, Nat.reduceLeDiff, hb, hc]; first | done | rfl) ?_
    | refine g_gF (by intro hb hc; simp only [go_sem, Nat.reduceEqDiff, Nat.reduceAdd, Nat.reduceLeDiff, hb, hc]; first | done | rfl) ?_
    | refine g_skT ?_
    | refine g_skF ?_
    | refine g_goT (by simp only [go_sem, Nat.reduceEqDiff, Nat.reduceAdd, Nat.reduceLeDiff]; first | done | rfl) ?_
    | refine g_goF (by simp only [go_sem, Nat.reduceEqDiff, Nat.reduceAdd, Nat.reduceLeDiff]; first | done | rfl) ?_
    | refine w_condT (by simp only [go_sem, Nat.reduceEqDiff, Nat.reduceAdd, Nat.reduceLeDiff]; first | done | rfl) ?_
    | refine w_condF (by simp only [go_sem, Nat.reduceEqDiff, Nat.reduceAdd, Nat.reduceLeDiff]; first | done | rfl) ?_
    | refine w_skip ?_
    | refine w_exit ?_
    | refine w_ret ?_
    )
        refine ⟨⟨?_, ?_, ?_⟩, ?_, ?_⟩
        · simp only [go_sem, Nat.reduceEqDiff, Nat.reduceAdd, Nat.reduceLeDiff, f1]
        · simp only [go_sem, Nat.reduceEqDiff, Nat.reduceAdd, Nat.reduceLeDiff, f19]
        · simp only [go_sem, Nat.reduceEqDiff, Nat.reduceAdd, Nat.reduceLeDiff]; exact hg2
        · simp only [go_sem, Nat.reduceEqDiff, Nat.reduceAdd, Nat.reduceLeDiff, hti]
        · simp only [go_sem, Nat.reduceEqDiff, Nat.reduceAdd, Nat.reduceLeDiff, htn]
      | false =>
        rw [hb, if_neg (by decide), List.append_nil] at hov
        rw [hmi] at hb
        refine w_condF (by simp only [go_sem, Nat.reduceEqDiff, Nat.reduceAdd, Nat.reduceLeDiff, hb]) ?_
        (repeat' first
    | refine w_seq ?_
    | refine w_rg ?_
    | refine wo_nil ?_
    | refine s_plain (by simp only [go_sem, Nat.reduceEqDiff, Nat.reduceAdd, Nat.reduceLeDiff]; first | done | rfl) ?_
    | refine s_void (by simp only [go_sem, Nat.reduceEqDiff, Nat.reduceAdd, Nat.reduceLeDiff]; first | done | rfl) ?_
    | refine s_guard (by simp only [go_sem, Nat.reduceEqDiff, Nat.reduceAdd, Nat.reduceLeDiff]; first | done | rfl) ?_
    | refine g_skU ?_
    | refine g_T (by intro hb; simp only [go_sem, Nat.reduceEqDiff, Nat.reduceAdd, Nat.reduceLeDiff, hb]; first | done | rfl) ?_
    | refine g_F (by intro hb; simp only [go_sem, Nat.reduceEqDiff, Nat.reduceAdd, Nat.reduceLeDiff, hb]; first | done | rfl) ?_
    | refine g_gT (by intro hb hc; simp only [go_sem, Nat.reduceEqDiff, Nat.reduceAdd, Nat.reduceLeDiff, hb, hc]; first | done | rfl) ?_
    | refine g_gF (by intro hb hc; simp only [go_sem, Nat.reduceEqDiff, Nat.reduceAdd, Nat.reduceLeDiff, hb, hc]; first | done | rfl) ?_
    | refine g_skT ?_
    | refine g_skF ?_
    | refine g_goT (by simp only [go_sem, Nat.reduceEqDiff, Nat.reduceAdd, Nat.reduceLeDiff]; first | done | rfl) ?_
    | refine g_goF (by simp only [go_sem, Nat.reduceEqDiff, Nat.reduceAdd, Nat.reduceLeDiff]; first | done | rfl) ?_
    | refine w_condT (by simp only [go_sem, Nat.reduceEqDiff, Nat.reduceAdd, Nat.reduceLeDiff]; first | done | rfl) ?_
    | refine w_condF (by simp only [go_sem, Nat.reduceEqDiff, Nat.reduceAdd, Nat.reduceLeDiff]; first | done | rfl) ?_
    | refine w_skip ?_
    | refine w_exit ?_
    | refine w_ret ?_
    )
        refine ⟨⟨?_, ?_, ?_⟩, ?_, ?_⟩
        · simp only [go_sem, Nat.reduceEqDiff, Nat.reduceAdd, Nat.reduceLeDiff, f1]
        · simp only [go_sem, Nat.reduceEqDiff, Nat.reduceAdd, Nat.reduceLeDiff, f19]
        · simp only [go_sem, Nat.reduceEqDiff, Nat.reduceAdd, Nat.reduceLeDiff]; rw [hov]; exact (hg.new _).put (d := 8) (by decide) _
        · simp only [go_sem, Nat.reduceEqDiff, Nat.reduceAdd, Nat.reduceLeDiff, hti]
        · simp only [go_sem, Nat.reduceEqDiff, Nat.reduceAdd, Nat.reduceLeDiff, htn]
    · rintro fr σ ⟨f1, f19, hg⟩
      try simp only [if_true]
      rw [List.take_of_length_le (Nat.le_refl _)] at hg
      have hfz := hg.fz (labs_fz σ _)
      have h129 := a129 H G O P B (l := overL l over) (by have := overL_len l over; omega) (overL_smalls hl hl')
      (repeat' first
    | refine w_seq ?_
    | refine w_rg ?_
    | refine wo_nil ?_
    | refine s_plain (by simp only [go_sem, Nat.reduceEqDiff, Nat.reduceAdd, Nat.reduceLeDiff]; first | done | rfl) ?_
    | refine s_void (by simp only [go_sem, Nat.reduceEqDiff, Nat.reduceAdd, Nat.reduceLeDiff]; first | done | rfl) ?_
    | refine s_guard (by simp only [go_sem, Nat.reduceEqDiff, Nat.reduceAdd, Nat.reduceLeDiff]; first | done | rfl) ?_
    | refine g_skU ?_
    | refine g_T (by intro hb; simp only [go_sem, Nat.reduceEqDiff, Nat.reduceAdd, Nat.reduceLeDiff, hb]; first | done | rfl) ?_
    | refine g_F (by intro hb; simp only [go_sem, Nat.reduceEqDiff, Nat.reduceAdd, Nat.reduceLeDiff, hb]; first | done | rfl) ?_
    | refine g_gT (by intro hb hc; simp only [go_sem, Nat.reduceEqDiff, Nat.reduceAdd, Nat.reduceLeDiff, hb, hc]; first | done | rfl) ?_
    | refine g_gF (by intro hb hc; simp only [go_sem, Nat.reduceEqDiff, Nat.reduceAdd, Nat.reduceLeDiff, hb, hc]; first | done | rfl) ?_
    | refine g_skT ?_
    | refine g_skF ?_
    | refine g_goT (by simp only [go_sem, Nat.reduceEqDiff, Nat.reduceAdd, Nat.reduceLeDiff]; first | done | rfl) ?_
    | refine g_goF (by simp only [go_sem, Nat.reduceEqDiff, Nat.reduceAdd, Nat.reduceLeDiff]; first | done | rfl) ?_
    )
      refine s_call (as := [.sl (labs (overL l over))]) (by simp only [go_sem, Nat.reduceEqDiff, Nat.reduceAdd, Nat.reduceLeDiff, hfz]) h129 ?_
      intro σ'
      (repeat' first
    | refine w_seq ?_
    | refine w_rg ?_
    | refine wo_nil ?_
    | refine s_plain (by simp only [go_sem, Nat.reduceEqDiff, Nat.reduceAdd, Nat.reduceLeDiff]; first | done | rfl) ?_
    | refine s_void (by simp only [go_sem, Nat.reduceEqDiff, Nat.reduceAdd, Nat.reduceLeDiff]; first | done | rfl) ?_
    | refine s_guard (by simp only [go_sem, Nat.reduceEqDiff, Nat.reduceAdd, Nat.reduceLeDiff]; first | done | rfl) ?_
    | refine g_skU ?_
    | refine g_T (by intro hb; simp only [go_sem, Nat.reduceEqDiff, Nat.reduceAdd, Nat.reduceLeDiff, hb]; first | done | rfl) ?_
    | refine g_F (by intro hb; simp only [go_sem, Nat.reduceEqDiff, Nat.reduceAdd, Nat.reduceLeDiff, hb]; first | done | rfl) ?_
    | refine g_gT (by intro hb hc; simp only [go_sem, Nat.reduceEqDiff, Nat.reduceAdd, Nat.reduceLeDiff, hb, hc]; first | done | rfl) ?_
    | refine g_gF (by intro hb hc; simp only [go_sem, Nat.reduceEqDiff, Nat.reduceAdd, Nat.reduceLeDiff, hb, hc]; first | done | rfl) ?_
    | refine g_skT ?_
    | refine g_skF ?_
    | refine g_goT (by simp only [go_sem, Nat.reduceEqDiff, Nat.reduceAdd, Nat.reduceLeDiff]; first | done | rfl) ?_
    | refine g_goF (by simp only [go_sem, Nat.reduceEqDiff, Nat.reduceAdd, Nat.reduceLeDiff]; first | done | rfl) ?_
    | refine w_condT (by simp only [go_sem, Nat.reduceEqDiff, Nat.reduceAdd, Nat.reduceLeDiff]; first | done | rfl) ?_
    | refine w_condF (by simp only [go_sem, Nat.reduceEqDiff, Nat.reduceAdd, Nat.reduceLeDiff]; first | done | rfl) ?_
    | refine w_skip ?_
    | refine w_exit ?_
    | refine w_ret ?_
    )
      exact ⟨.inr rfl, by simp only [go_sem, Nat.reduceEqDiff, Nat.reduceAdd, Nat.reduceLeDiff, retOf, resOf]; simp only [withL, hb, Bool.false_eq_true, if_false]; first | done | rfl⟩
    · refine ⟨?_, ?_, ?_⟩
      · simp only [go_sem, Nat.reduceEqDiff, Nat.reduceAdd, Nat.reduceLeDiff]
      · simp only [go_sem, Nat.reduceEqDiff, Nat.reduceAdd, Nat.reduceLeDiff]
      · simp only [go_sem, Nat.reduceEqDiff, Nat.reduceAdd, Nat.reduceLeDiff]
        have h0 : overL [] over = over := by simp [overL]
        rw [h0]
        exact hg.mono (by intro o ho; simp at ho ⊢; omega)
    · simp only [go_sem, Nat.reduceEqDiff, Nat.reduceAdd, Nat.reduceLeDiff]
    · simp only [go_sem, Nat.reduceEqDiff, Nat.reduceAdd, Nat.reduceLeDiff, hll]

theorem newL_ok {l : List Lab} (h : (newL l).2 = 0) : rightL (newL l).1 = true := by
  unfold newL at h ⊢
  split at h
  · cases h
  · split at h
    · cases h
    · split at h
      · rename_i h1 h2 h3
        rw [if_neg h1, if_neg h2, if_pos h3]; exact h3
      · cases h

theorem withL_ok {l over : List Lab} (h : (withL l over).2 = 0) : rightL (withL l over).1 = true := by
  unfold withL at h ⊢
  split at h
  · cases h
  · rename_i h1
    rw [if_neg h1]
    exact newL_ok h

/-- The labels of a rule's alert. -/
def labelsR (r : Rule) (l : List Lab) : List Lab × Int := if !rightR r then ([], 1) else if (withL l r.labels).2 != 0 then ([], (withL l r.labels).2) else withL (withL l r.labels).1 [(alertT, r.name)]

theorem a109 (H : Has la env) (G : Has lc env) (F : Has lf env) (I : Has lg env) (O : Has lo env) (P : Has lp env) (V : Has lq env) (B : Bits env) {r : Rule} {l : List Lab} (hr : r.Fits) (hn : l.length ≤ 9223372036854775807) (hl : Smalls l) :
    AV env 109 [rule r, .sl (labs l)] = some (.tu [.sl (labs (labelsR r l).1), .sc (.int .i64 (labelsR r l).2)]) := by
  have h105 := a105 H G F I hr
  have h116 := a116 (la_la0 H) G O P (lq_lq0 V) B hn hl hr.l hr.s
  refine AV_wp (V (109, d109) (by simp [lq])) rfl ?_
  unfold rule at h105 ⊢
  (repeat' first
    | refine w_seq ?_
    | refine w_rg ?_
    | refine wo_nil ?_
    | refine s_plain (by simp only [go_sem, Nat.reduceEqDiff, Nat.reduceAdd, Nat.reduceLeDiff, h105, List.drop_zero]; first | done | rfl) ?_
    | refine s_void (by simp only [go_sem, Nat.reduceEqDiff, Nat.reduceAdd, Nat.reduceLeDiff, h105, List.drop_zero]; first | done | rfl) ?_
    | refine s_guard (by simp only [go_sem, Nat.reduceEqDiff, Nat.reduceAdd, Nat.reduceLeDiff, h105, List.drop_zero]; first | done | rfl) ?_
    | refine g_skU ?_
    | refine g_T (by intro hb; simp only [go_sem, Nat.reduceEqDiff, Nat.reduceAdd, Nat.reduceLeDiff, h105, List.drop_zero, hb]; first | done | rfl) ?_
    | refine g_F (by intro hb; simp only [go_sem, Nat.reduceEqDiff, Nat.reduceAdd, Nat.reduceLeDiff, h105, List.drop_zero, hb]; first | done | rfl) ?_
    | refine g_gT (by intro hb hc; simp only [go_sem, Nat.reduceEqDiff, Nat.reduceAdd, Nat.reduceLeDiff, h105, List.drop_zero, hb, hc]; first | done | rfl) ?_
    | refine g_gF (by intro hb hc; simp only [go_sem, Nat.reduceEqDiff, Nat.reduceAdd, Nat.reduceLeDiff, h105, List.drop_zero, hb, hc]; first | done | rfl) ?_
    | refine g_skT ?_
    | refine g_skF ?_
    | refine g_goT (by simp only [go_sem, Nat.reduceEqDiff, Nat.reduceAdd, Nat.reduceLeDiff, h105, List.drop_zero]; first | done | rfl) ?_
    | refine g_goF (by simp only [go_sem, Nat.reduceEqDiff, Nat.reduceAdd, Nat.reduceLeDiff, h105, List.drop_zero]; first | done | rfl) ?_
    )
  cases hb : rightR r with
  | false =>
    (repeat' first
    | refine w_seq ?_
    | refine w_rg ?_
    | refine wo_nil ?_
    | refine s_plain (by simp only [go_sem, Nat.reduceEqDiff, Nat.reduceAdd, Nat.reduceLeDiff]; first | done | rfl) ?_
    | refine s_void (by simp only [go_sem, Nat.reduceEqDiff, Nat.reduceAdd, Nat.reduceLeDiff]; first | done | rfl) ?_
    | refine s_guard (by simp only [go_sem, Nat.reduceEqDiff, Nat.reduceAdd, Nat.reduceLeDiff]; first | done | rfl) ?_
    | refine g_skU ?_
    | refine g_T (by intro hb; simp only [go_sem, Nat.reduceEqDiff, Nat.reduceAdd, Nat.reduceLeDiff, hb]; first | done | rfl) ?_
    | refine g_F (by intro hb; simp only [go_sem, Nat.reduceEqDiff, Nat.reduceAdd, Nat.reduceLeDiff, hb]; first | done | rfl) ?_
    | refine g_gT (by intro hb hc; simp only [go_sem, Nat.reduceEqDiff, Nat.reduceAdd, Nat.reduceLeDiff, hb, hc]; first | done | rfl) ?_
    | refine g_gF (by intro hb hc; simp only [go_sem, Nat.reduceEqDiff, Nat.reduceAdd, Nat.reduceLeDiff, hb, hc]; first | done | rfl) ?_
    | refine g_skT ?_
    | refine g_skF ?_
    | refine g_goT (by simp only [go_sem, Nat.reduceEqDiff, Nat.reduceAdd, Nat.reduceLeDiff]; first | done | rfl) ?_
    | refine g_goF (by simp only [go_sem, Nat.reduceEqDiff, Nat.reduceAdd, Nat.reduceLeDiff]; first | done | rfl) ?_
    | refine w_condT (by simp only [go_sem, Nat.reduceEqDiff, Nat.reduceAdd, Nat.reduceLeDiff]; first | done | rfl) ?_
    | refine w_condF (by simp only [go_sem, Nat.reduceEqDiff, Nat.reduceAdd, Nat.reduceLeDiff]; first | done | rfl) ?_
    | refine w_skip ?_
    | refine w_exit ?_
    | refine w_ret ?_
    )
    exact ⟨.inr rfl, by simp only [go_sem, Nat.reduceEqDiff, Nat.reduceAdd, Nat.reduceLeDiff, retOf, resOf]; simp only [labelsR, hb]; rfl⟩
  | true =>
    (repeat' first
    | refine w_seq ?_
    | refine w_rg ?_
    | refine wo_nil ?_
    | refine s_plain (by simp only [go_sem, Nat.reduceEqDiff, Nat.reduceAdd, Nat.reduceLeDiff]; first | done | rfl) ?_
    | refine s_void (by simp only [go_sem, Nat.reduceEqDiff, Nat.reduceAdd, Nat.reduceLeDiff]; first | done | rfl) ?_
    | refine s_guard (by simp only [go_sem, Nat.reduceEqDiff, Nat.reduceAdd, Nat.reduceLeDiff]; first | done | rfl) ?_
    | refine g_skU ?_
    | refine g_T (by intro hb; simp only [go_sem, Nat.reduceEqDiff, Nat.reduceAdd, Nat.reduceLeDiff, hb]; first | done | rfl) ?_
    | refine g_F (by intro hb; simp only [go_sem, Nat.reduceEqDiff, Nat.reduceAdd, Nat.reduceLeDiff, hb]; first | done | rfl) ?_
    | refine g_gT (by intro hb hc; simp only [go_sem, Nat.reduceEqDiff, Nat.reduceAdd, Nat.reduceLeDiff, hb, hc]; first | done | rfl) ?_
    | refine g_gF (by intro hb hc; simp only [go_sem, Nat.reduceEqDiff, Nat.reduceAdd, Nat.reduceLeDiff, hb, hc]; first | done | rfl) ?_
    | refine g_skT ?_
    | refine g_skF ?_
    | refine g_goT (by simp only [go_sem, Nat.reduceEqDiff, Nat.reduceAdd, Nat.reduceLeDiff]; first | done | rfl) ?_
    | refine g_goF (by simp only [go_sem, Nat.reduceEqDiff, Nat.reduceAdd, Nat.reduceLeDiff]; first | done | rfl) ?_
    | refine w_condT (by simp only [go_sem, Nat.reduceEqDiff, Nat.reduceAdd, Nat.reduceLeDiff]; first | done | rfl) ?_
    | refine w_condF (by simp only [go_sem, Nat.reduceEqDiff, Nat.reduceAdd, Nat.reduceLeDiff]; first | done | rfl) ?_
    | refine w_skip ?_
    | refine w_exit ?_
    | refine w_ret ?_
    )
    (repeat' first
    | refine w_seq ?_
    | refine w_rg ?_
    | refine wo_nil ?_
    | refine s_plain (by simp only [go_sem, Nat.reduceEqDiff, Nat.reduceAdd, Nat.reduceLeDiff, h116]; first | done | rfl) ?_
    | refine s_void (by simp only [go_sem, Nat.reduceEqDiff, Nat.reduceAdd, Nat.reduceLeDiff, h116]; first | done | rfl) ?_
    | refine s_guard (by simp only [go_sem, Nat.reduceEqDiff, Nat.reduceAdd, Nat.reduceLeDiff, h116]; first | done | rfl) ?_
    | refine g_skU ?_
    | refine g_T (by intro hb; simp only [go_sem, Nat.reduceEqDiff, Nat.reduceAdd, Nat.reduceLeDiff, h116, hb]; first | done | rfl) ?_
    | refine g_F (by intro hb; simp only [go_sem, Nat.reduceEqDiff, Nat.reduceAdd, Nat.reduceLeDiff, h116, hb]; first | done | rfl) ?_
    | refine g_gT (by intro hb hc; simp only [go_sem, Nat.reduceEqDiff, Nat.reduceAdd, Nat.reduceLeDiff, h116, hb, hc]; first | done | rfl) ?_
    | refine g_gF (by intro hb hc; simp only [go_sem, Nat.reduceEqDiff, Nat.reduceAdd, Nat.reduceLeDiff, h116, hb, hc]; first | done | rfl) ?_
    | refine g_skT ?_
    | refine g_skF ?_
    | refine g_goT (by simp only [go_sem, Nat.reduceEqDiff, Nat.reduceAdd, Nat.reduceLeDiff, h116]; first | done | rfl) ?_
    | refine g_goF (by simp only [go_sem, Nat.reduceEqDiff, Nat.reduceAdd, Nat.reduceLeDiff, h116]; first | done | rfl) ?_
    )
    cases hq : ((withL l r.labels).2 != 0) with
    | true =>
      (repeat' first
    | refine w_seq ?_
    | refine w_rg ?_
    | refine wo_nil ?_
    | refine s_plain (by simp only [go_sem, Nat.reduceEqDiff, Nat.reduceAdd, Nat.reduceLeDiff]; first | done | rfl) ?_
    | refine s_void (by simp only [go_sem, Nat.reduceEqDiff, Nat.reduceAdd, Nat.reduceLeDiff]; first | done | rfl) ?_
    | refine s_guard (by simp only [go_sem, Nat.reduceEqDiff, Nat.reduceAdd, Nat.reduceLeDiff]; first | done | rfl) ?_
    | refine g_skU ?_
    | refine g_T (by intro hb; simp only [go_sem, Nat.reduceEqDiff, Nat.reduceAdd, Nat.reduceLeDiff, hb]; first | done | rfl) ?_
    | refine g_F (by intro hb; simp only [go_sem, Nat.reduceEqDiff, Nat.reduceAdd, Nat.reduceLeDiff, hb]; first | done | rfl) ?_
    | refine g_gT (by intro hb hc; simp only [go_sem, Nat.reduceEqDiff, Nat.reduceAdd, Nat.reduceLeDiff, hb, hc]; first | done | rfl) ?_
    | refine g_gF (by intro hb hc; simp only [go_sem, Nat.reduceEqDiff, Nat.reduceAdd, Nat.reduceLeDiff, hb, hc]; first | done | rfl) ?_
    | refine g_skT ?_
    | refine g_skF ?_
    | refine g_goT (by simp only [go_sem, Nat.reduceEqDiff, Nat.reduceAdd, Nat.reduceLeDiff]; first | done | rfl) ?_
    | refine g_goF (by simp only [go_sem, Nat.reduceEqDiff, Nat.reduceAdd, Nat.reduceLeDiff]; first | done | rfl) ?_
    | refine w_condT (by simp only [go_sem, Nat.reduceEqDiff, Nat.reduceAdd, Nat.reduceLeDiff]; first | done | rfl) ?_
    | refine w_condF (by simp only [go_sem, Nat.reduceEqDiff, Nat.reduceAdd, Nat.reduceLeDiff]; first | done | rfl) ?_
    | refine w_skip ?_
    | refine w_exit ?_
    | refine w_ret ?_
    )
      exact ⟨.inr rfl, by simp only [go_sem, Nat.reduceEqDiff, Nat.reduceAdd, Nat.reduceLeDiff, retOf, resOf]; simp only [labelsR, hb, hq]; rfl⟩
    | false =>
      have hz : (withL l r.labels).2 = 0 := by simpa using hq
      have hok := withL_ok hz
      have hsm : Smalls [(alertT, r.name)] := by
        intro m hm
        simp at hm
        subst hm
        exact ⟨show Small alertT by unfold Small; decide, hr.n⟩
      have h116' := a116 (la_la0 H) G O P (lq_lq0 V) B (l := (withL l r.labels).1) (over := [(alertT, r.name)]) (by have := right_len hok; omega) (right_smalls hok) (by simp) hsm
      (repeat' first
    | refine w_seq ?_
    | refine w_rg ?_
    | refine wo_nil ?_
    | refine s_plain (by simp only [go_sem, Nat.reduceEqDiff, Nat.reduceAdd, Nat.reduceLeDiff, fillE, fillP, splice, List.replicate_succ, List.replicate_zero, List.set_cons_zero, List.take_succ_cons, List.drop_succ_cons, List.drop_zero]; first | done | rfl) ?_
    | refine s_void (by simp only [go_sem, Nat.reduceEqDiff, Nat.reduceAdd, Nat.reduceLeDiff, fillE, fillP, splice, List.replicate_succ, List.replicate_zero, List.set_cons_zero, List.take_succ_cons, List.drop_succ_cons, List.drop_zero]; first | done | rfl) ?_
    | refine s_guard (by simp only [go_sem, Nat.reduceEqDiff, Nat.reduceAdd, Nat.reduceLeDiff, fillE, fillP, splice, List.replicate_succ, List.replicate_zero, List.set_cons_zero, List.take_succ_cons, List.drop_succ_cons, List.drop_zero]; first | done | rfl) ?_
    | refine g_skU ?_
    | refine g_T (by intro hb; simp only [go_sem, Nat.reduceEqDiff, Nat.reduceAdd, Nat.reduceLeDiff, fillE, fillP, splice, List.replicate_succ, List.replicate_zero, List.set_cons_zero, List.take_succ_cons, List.drop_succ_cons, List.drop_zero, hb]; first | done | rfl) ?_
    | refine g_F (by intro hb; simp only [go_sem, Nat.reduceEqDiff, Nat.reduceAdd, Nat.reduceLeDiff, fillE, fillP, splice, List.replicate_succ, List.replicate_zero, List.set_cons_zero, List.take_succ_cons, List.drop_succ_cons, List.drop_zero, hb]; first | done | rfl) ?_
    | refine g_gT (by intro hb hc; simp only [go_sem, Nat.reduceEqDiff, Nat.reduceAdd, Nat.reduceLeDiff, fillE, fillP, splice, List.replicate_succ, List.replicate_zero, List.set_cons_zero, List.take_succ_cons, List.drop_succ_cons, List.drop_zero, hb, hc]; first | done | rfl) ?_
    | refine g_gF (by intro hb hc; simp only [go_sem, Nat.reduceEqDiff, Nat.reduceAdd, Nat.reduceLeDiff, fillE, fillP, splice, List.replicate_succ, List.replicate_zero, List.set_cons_zero, List.take_succ_cons, List.drop_succ_cons, List.drop_zero, hb, hc]; first | done | rfl) ?_
    | refine g_skT ?_
    | refine g_skF ?_
    | refine g_goT (by simp only [go_sem, Nat.reduceEqDiff, Nat.reduceAdd, Nat.reduceLeDiff, fillE, fillP, splice, List.replicate_succ, List.replicate_zero, List.set_cons_zero, List.take_succ_cons, List.drop_succ_cons, List.drop_zero]; first | done | rfl) ?_
    | refine g_goF (by simp only [go_sem, Nat.reduceEqDiff, Nat.reduceAdd, Nat.reduceLeDiff, fillE, fillP, splice, List.replicate_succ, List.replicate_zero, List.set_cons_zero, List.take_succ_cons, List.drop_succ_cons, List.drop_zero]; first | done | rfl) ?_
    | refine w_condT (by simp only [go_sem, Nat.reduceEqDiff, Nat.reduceAdd, Nat.reduceLeDiff, fillE, fillP, splice, List.replicate_succ, List.replicate_zero, List.set_cons_zero, List.take_succ_cons, List.drop_succ_cons, List.drop_zero]; first | done | rfl) ?_
    | refine w_condF (by simp only [go_sem, Nat.reduceEqDiff, Nat.reduceAdd, Nat.reduceLeDiff, fillE, fillP, splice, List.replicate_succ, List.replicate_zero, List.set_cons_zero, List.take_succ_cons, List.drop_succ_cons, List.drop_zero]; first | done | rfl) ?_
    | refine w_skip ?_
    | refine w_exit ?_
    | refine w_ret ?_
    )
      (repeat' first
    | refine w_seq ?_
    | refine w_rg ?_
    | refine wo_nil ?_
    | refine s_plain (by simp only [go_sem, Nat.reduceEqDiff, Nat.reduceAdd, Nat.reduceLeDiff, fillE, fillP, splice, List.replicate_succ, List.replicate_zero, List.set_cons_zero, List.take_succ_cons, List.drop_succ_cons, List.drop_zero]; first | done | rfl) ?_
    | refine s_void (by simp only [go_sem, Nat.reduceEqDiff, Nat.reduceAdd, Nat.reduceLeDiff, fillE, fillP, splice, List.replicate_succ, List.replicate_zero, List.set_cons_zero, List.take_succ_cons, List.drop_succ_cons, List.drop_zero]; first | done | rfl) ?_
    | refine s_guard (by simp only [go_sem, Nat.reduceEqDiff, Nat.reduceAdd, Nat.reduceLeDiff, fillE, fillP, splice, List.replicate_succ, List.replicate_zero, List.set_cons_zero, List.take_succ_cons, List.drop_succ_cons, List.drop_zero]; first | done | rfl) ?_
    | refine g_skU ?_
    | refine g_T (by intro hb; simp only [go_sem, Nat.reduceEqDiff, Nat.reduceAdd, Nat.reduceLeDiff, fillE, fillP, splice, List.replicate_succ, List.replicate_zero, List.set_cons_zero, List.take_succ_cons, List.drop_succ_cons, List.drop_zero, hb]; first | done | rfl) ?_
    | refine g_F (by intro hb; simp only [go_sem, Nat.reduceEqDiff, Nat.reduceAdd, Nat.reduceLeDiff, fillE, fillP, splice, List.replicate_succ, List.replicate_zero, List.set_cons_zero, List.take_succ_cons, List.drop_succ_cons, List.drop_zero, hb]; first | done | rfl) ?_
    | refine g_gT (by intro hb hc; simp only [go_sem, Nat.reduceEqDiff, Nat.reduceAdd, Nat.reduceLeDiff, fillE, fillP, splice, List.replicate_succ, List.replicate_zero, List.set_cons_zero, List.take_succ_cons, List.drop_succ_cons, List.drop_zero, hb, hc]; first | done | rfl) ?_
    | refine g_gF (by intro hb hc; simp only [go_sem, Nat.reduceEqDiff, Nat.reduceAdd, Nat.reduceLeDiff, fillE, fillP, splice, List.replicate_succ, List.replicate_zero, List.set_cons_zero, List.take_succ_cons, List.drop_succ_cons, List.drop_zero, hb, hc]; first | done | rfl) ?_
    | refine g_skT ?_
    | refine g_skF ?_
    | refine g_goT (by simp only [go_sem, Nat.reduceEqDiff, Nat.reduceAdd, Nat.reduceLeDiff, fillE, fillP, splice, List.replicate_succ, List.replicate_zero, List.set_cons_zero, List.take_succ_cons, List.drop_succ_cons, List.drop_zero]; first | done | rfl) ?_
    | refine g_goF (by simp only [go_sem, Nat.reduceEqDiff, Nat.reduceAdd, Nat.reduceLeDiff, fillE, fillP, splice, List.replicate_succ, List.replicate_zero, List.set_cons_zero, List.take_succ_cons, List.drop_succ_cons, List.drop_zero]; first | done | rfl) ?_
    )
      have hone : labs [(alertT, r.name)] = [.agg [.sc (.string ⟨#[97, 108, 101, 114, 116]⟩), .sc (.string r.name)]] := rfl
      rw [hone] at h116'
      refine s_call (as := [.sl (labs (withL l r.labels).1), .sl [.agg [.sc (.string ⟨#[97, 108, 101, 114, 116]⟩), .sc (.string r.name)]]]) (by simp only [go_sem, Nat.reduceEqDiff, Nat.reduceAdd, Nat.reduceLeDiff, Nat.reduceAdd, List.drop_zero, List.take_succ_cons, List.take_zero]) h116' ?_
      intro σ'
      (repeat' first
    | refine w_seq ?_
    | refine w_rg ?_
    | refine wo_nil ?_
    | refine s_plain (by simp only [go_sem, Nat.reduceEqDiff, Nat.reduceAdd, Nat.reduceLeDiff]; first | done | rfl) ?_
    | refine s_void (by simp only [go_sem, Nat.reduceEqDiff, Nat.reduceAdd, Nat.reduceLeDiff]; first | done | rfl) ?_
    | refine s_guard (by simp only [go_sem, Nat.reduceEqDiff, Nat.reduceAdd, Nat.reduceLeDiff]; first | done | rfl) ?_
    | refine g_skU ?_
    | refine g_T (by intro hb; simp only [go_sem, Nat.reduceEqDiff, Nat.reduceAdd, Nat.reduceLeDiff, hb]; first | done | rfl) ?_
    | refine g_F (by intro hb; simp only [go_sem, Nat.reduceEqDiff, Nat.reduceAdd, Nat.reduceLeDiff, hb]; first | done | rfl) ?_
    | refine g_gT (by intro hb hc; simp only [go_sem, Nat.reduceEqDiff, Nat.reduceAdd, Nat.reduceLeDiff, hb, hc]; first | done | rfl) ?_
    | refine g_gF (by intro hb hc; simp only [go_sem, Nat.reduceEqDiff, Nat.reduceAdd, Nat.reduceLeDiff, hb, hc]; first | done | rfl) ?_
    | refine g_skT ?_
    | refine g_skF ?_
    | refine g_goT (by simp only [go_sem, Nat.reduceEqDiff, Nat.reduceAdd, Nat.reduceLeDiff]; first | done | rfl) ?_
    | refine g_goF (by simp only [go_sem, Nat.reduceEqDiff, Nat.reduceAdd, Nat.reduceLeDiff]; first | done | rfl) ?_
    | refine w_condT (by simp only [go_sem, Nat.reduceEqDiff, Nat.reduceAdd, Nat.reduceLeDiff]; first | done | rfl) ?_
    | refine w_condF (by simp only [go_sem, Nat.reduceEqDiff, Nat.reduceAdd, Nat.reduceLeDiff]; first | done | rfl) ?_
    | refine w_skip ?_
    | refine w_exit ?_
    | refine w_ret ?_
    )
      exact ⟨.inr rfl, by simp only [go_sem, Nat.reduceEqDiff, Nat.reduceAdd, Nat.reduceLeDiff, retOf, resOf]; simp only [labelsR, hb, hq]; first | done | rfl⟩

end
end Go.Proofs.YtjijlmfhnkipmaaDoorPv
