/-
What a set of labels has of some names: the code's, and the document's.
-/
import Derived.Test.YtjijlmfhnkipmaaDoorPvSx
namespace Go.Proofs.YtjijlmfhnkipmaaDoorPv
open Go
set_option linter.unusedSimpArgs false
set_option linter.unusedVariables false
set_option maxHeartbeats 4000000
attribute [local go_sem ↓] e_mv e_pick e_bin e_eqs e_beq e_un e_cvi e_str e_s2b e_b2s e_box e_build e_bsl e_ld e_st e_nck e_mkf e_slcS e_slcL e_fa e_fld e_ia e_iaa e_ix e_ixa e_ext e_lenS e_lenL e_mnmx e_app e_msl e_clr e_call e_callv pa_t pa_c pa_f slcSP_str hiOf_some hiOf_none loOf_some loOf_none set_eq set_ne
attribute [local go_sem] pv pv1 simple frOf_0 frOf_1 frOf_2 frOf_3 frOf_4 frOf_5 ne_eq not_false_eq_true if_true Bool.false_eq_true if_false pbin punary Option.map_some Option.bind_some pick_and pick_or opt_true Bool.true_and Bool.and_self Bool.and_true Bool.true_or Bool.false_or Bool.not_true Bool.not_false callE pcall_eq List.map_cons List.map_nil List.append_nil List.nil_append List.cons_append mapM_cons' mapM_nil' dep_eq fz_sc fz_sl fz_em fz_fn fz_fp fz_agg fz_bx fz_ob Nat.lt_irrefl Nat.zero_lt_one Nat.lt_add_one flat clL cl Bool.or_true okc cells_agg cells_sc cells_sl cells_em cells_ob cells_fn cells_bx cells_fp List.length_cons List.length_nil Nat.zero_add and_self true_and and_true new_m new_c put_m put_c nil_m nil_c deref List.getElem?_cons_zero List.getElem?_cons_succ List.drop_zero List.drop_succ_cons List.take_succ_cons List.take_zero Nat.le_refl false_and and_false
set_option maxRecDepth 8000

/-- slices.DeleteFunc[[]transhipment/api.Label,transhipment/api.Label] -/
def d246 : Def := (.code 2 [.tmp 4] (.seq (.rg false [⟨.some 4, .none, .mv (.c (.slice .none 0 0))⟩]) (.seq (.rg false [⟨.some 8, .none, .mv (.t 0)⟩, ⟨.some 9, .none, .mv (.t 1)⟩, ⟨.some 10, .none, .call 121 .pure [.t 8, .t 9]⟩, ⟨.some 5, .none, .mv (.t 10)⟩]) (.seq (.seq (.rg false [⟨.some 11, .none, .mv (.t 5)⟩, ⟨.some 12, .none, .bin .eql (.t 11) (.c (.int .i64 (-1)))⟩]) (.cond (.t 12) (.seq (.rg false [⟨.some 13, .none, .mv (.t 0)⟩, ⟨.some 4, .none, .mv (.t 13)⟩]) .ret) .skip)) (.seq (.seq (.rg false [⟨.some 14, .none, .mv (.t 5)⟩, ⟨.some 15, .none, .bin .add (.t 14) (.c (.int .i64 1))⟩, ⟨.some 6, .none, .mv (.t 15)⟩]) (.block 0 (.loop (.seq (.seq (.rg false [⟨.some 16, .none, .mv (.t 6)⟩, ⟨.some 17, .none, .mv (.t 0)⟩, ⟨.some 18, .none, .lenL (.t 17)⟩, ⟨.some 19, .none, .bin .lss (.t 16) (.t 18)⟩]) (.cond (.t 19) .skip (.exit 0))) (.seq (.block 1 (.seq (.rg false [⟨.some 22, .none, .mv (.t 0)⟩, ⟨.some 23, .none, .mv (.t 6)⟩, ⟨.some 24, .none, .ia 2 (.t 22) (.t 23)⟩, ⟨.some 25, .none, .ld (.some 2) (.t 24)⟩, ⟨.some 7, .none, .box (.c (.agg #[.string ⟨#[]⟩, .string ⟨#[]⟩]))⟩, ⟨.none, .none, .st 2 (.t 7) (.t 25)⟩]) (.seq (.rg false [⟨.some 26, .none, .mv (.t 1)⟩, ⟨.some 27, .none, .ld (.some 2) (.t 7)⟩, ⟨.some 28, .none, .callv (.t 26) .pure [.t 27]⟩, ⟨.some 29, .none, .un .not (.t 28)⟩]) (.cond (.t 29) (.seq (.rg false [⟨.some 30, .none, .mv (.t 0)⟩, ⟨.some 31, .none, .mv (.t 5)⟩, ⟨.some 32, .none, .ld (.some 2) (.t 7)⟩, ⟨.some 33, .none, .ia 2 (.t 30) (.t 31)⟩, ⟨.none, .none, .st 2 (.t 33) (.t 32)⟩]) (.rg false [⟨.some 34, .none, .mv (.t 5)⟩, ⟨.some 35, .none, .bin .add (.t 34) (.c (.int .i64 1))⟩, ⟨.some 5, .none, .mv (.t 35)⟩])) .skip)))) (.rg false [⟨.some 20, .none, .mv (.t 6)⟩, ⟨.some 21, .none, .bin .add (.t 20) (.c (.int .i64 1))⟩, ⟨.some 6, .none, .mv (.t 21)⟩])))))) (.seq (.rg false [⟨.some 36, .none, .mv (.t 0)⟩, ⟨.some 37, .none, .mv (.t 5)⟩, ⟨.some 38, .none, .slcL 2 (.t 36) (.some (.t 37)) .none⟩, ⟨.none, .none, .clr 2 (.agg #[.string ⟨#[]⟩, .string ⟨#[]⟩]) (.t 38)⟩]) (.seq (.rg false [⟨.some 39, .none, .mv (.t 0)⟩, ⟨.some 40, .none, .mv (.t 5)⟩, ⟨.some 41, .none, .slcL 2 (.t 39) .none (.some (.t 40))⟩, ⟨.some 4, .none, .mv (.t 41)⟩]) .ret)))))))
/-- transhipment/label.Keep -/
def d244 : Def := (.code 2 [.tmp 4, .tmp 5] (.seq (.rg false [⟨.some 3, .none, .box (.t 1)⟩, ⟨.some 4, .none, .mv (.c (.slice .none 0 0))⟩, ⟨.some 5, .none, .mv (.c (.int .i64 0))⟩]) (.seq (.seq (.rg false [⟨.some 6, .none, .mv (.t 0)⟩, ⟨.some 7, .none, .call 113 .pure [.t 6]⟩, ⟨.some 8, .none, .un .not (.t 7)⟩]) (.cond (.t 8) (.seq (.rg false [⟨.some 4, .none, .mv (.c (.slice .none 0 0))⟩, ⟨.some 5, .none, .mv (.c (.int .i64 1))⟩]) .ret) .skip)) (.seq (.rg false [⟨.some 9, .none, .mv (.t 0)⟩, ⟨.some 10, .none, .call 128 .opn [.t 9]⟩, ⟨.some 11, .none, .mkf 247 [] [.t 3]⟩, ⟨.some 12, .none, .call 246 .opn [.t 10, .t 11]⟩, ⟨.some 4, .none, .mv (.t 12)⟩, ⟨.some 5, .none, .mv (.c (.int .i64 0))⟩]) .ret))))

def ly : List (Nat × Def) := [(246, d246), (244, d244)]

section
variable {env : Nat → Option Def} {fr : Fr} {σ σ' : St} {K : Fr → St → Prop} {Q : X → Fr → St → Prop}

theorem found_min {p : Nat → Bool} {n i : Nat} (h : found p n = (i : Int)) : i < n ∧ p i = true ∧ ∀ j, j < i → p j = false := by
  unfold found at h
  cases hf : (List.range n).find? p with
  | none => rw [hf] at h; simp at h
  | some k =>
    rw [hf] at h
    simp only [Int.natCast_inj] at h
    subst h
    have h1 : k < n := by simpa using List.mem_of_find?_eq_some hf
    have h2 := List.find?_range_eq_some.1 hf
    exact ⟨h1, h2.1, fun j hj => by simpa using h2.2.2 j hj⟩

theorem found_cases (p : Nat → Bool) (n : Nat) : found p n = -1 ∨ ∃ i : Nat, found p n = i := by
  unfold found
  cases (List.range n).find? p with
  | none => exact .inl rfl
  | some i => exact .inr ⟨i, rfl⟩

theorem keepL_all {l : List Lab} {ns : List ByteArray} (h : ∀ j, j < l.length → hasN ns (nth l j).1 = true) : keepL l ns = l := by
  unfold keepL
  rw [List.filter_eq_self]
  intro m hm
  obtain ⟨i, hi, rfl⟩ := List.getElem_of_mem hm
  have := h i hi
  rwa [nth_eq hi] at this

theorem keepL_succ {l : List Lab} {ns : List ByteArray} {j : Nat} (hj : j < l.length) : keepL (l.take (j + 1)) ns = keepL (l.take j) ns ++ if hasN ns l[j].1 = true then [l[j]] else [] := by
  unfold keepL
  rw [List.take_succ_eq_append_getElem hj, List.filter_append]
  cases h : hasN ns l[j].1 <;> simp [h]

theorem keepL_len (l : List Lab) (ns : List ByteArray) : (keepL l ns).length ≤ l.length := List.length_filter_le _ _

/-- What stands while labels are taken out: the first i of X are what is kept of the first j of l, behind j nothing has changed. -/
structure Del (l : List Lab) (ns : List ByteArray) (g g3 : Nat) (i j : Nat) (X : List Lab) (fr : Fr) (σ : St) : Prop where
  f0 : fr 0 = .ob 7 g 2 0 l.length
  f1 : fr 1 = .fn 247 [] [.bx 3 g3 1 0 0]
  f5 : fr 5 = .sc (.int .i64 (i : Int))
  f6 : fr 6 = .sc (.int .i64 (j : Int))
  lx : X.length = l.length
  ij : i < j
  tk : X.take i = keepL (l.take j) ns
  dr : X.drop j = l.drop j
  mm : σ.m 7 g = some ⟨2, labs X, true, true⟩
  gc : g < σ.c 7
  mq : ∃ wr, σ.m 3 g3 = some ⟨1, [.sl (strs ns)], true, wr⟩

theorem labs_fzd (σ : St) (d : Nat) (l : List Lab) : (labs l).mapM (fz σ (d + 2)) = some (labs l) := by
  induction l with
  | nil => rfl
  | cons m r ih =>
    show List.mapM (fz σ (d + 2)) (lab m :: labs r) = _
    rw [mapM_cons', ih]
    rfl

theorem gat_fzd {os : List Nat} {es d : Nat} {w : Bool} {p : PV} {xs : List PV} (h : Gat σ os es w p xs) (hx : xs.mapM (fz σ d) = some xs) : fz σ (d + 1) p = some (.sl xs) := by
  rcases h with ⟨rfl, rfl⟩ | ⟨o, g, wr, _, rfl, h2, _⟩
  · rfl
  · rw [fz_ob, h2]
    simp [hx]

/-- A call whose answer is no part of memory: nothing else changes. -/
theorem s_callF {d f : Nat} {args : List PA} {as : List PV} {r : PV} {ops : List POp} (h1 : (args.map (pa fr)).mapM (fz σ dep) = some as) (h2 : AV env f as = some r) (hf : flat r = true) (h : Wos env ops K (fr.set d r) σ) :
    Wos env (⟨some d, none, .call f .pure args⟩ :: ops) K fr σ := by
  refine s_plain (v := r) (σ' := σ) ?_ h
  simp only [evO, callE, pcall_eq, h1, Option.bind_some, h2, hf, Bool.true_or, if_true]

theorem a246 (G : Has lc env) (X : Has lx env) {l : List Lab} {ns : List ByteArray} (hn : l.length ≤ 1000) (hs : ns.length ≤ 9223372036854775807) {p : PV} {g3 : Nat} {wr : Bool} (Y : Has ly env)
    (hp : Gat σ [7] 2 true p (labs l)) (hq : σ.m 3 g3 = some ⟨1, [.sl (strs ns)], true, wr⟩) : ∃ r σ', EV env 246 [p, .fn 247 [] [.bx 3 g3 1 0 0]] σ = some (r, σ') ∧ fz σ' 11 r = some (.sl (labs (keepL l ns))) := by
  have hb247 : ∀ m : Lab, AV env 247 ([] ++ [lab m] ++ [.fp [.sl (strs ns)] 0 0]) = some (.sc (.bool (!hasN ns m.1))) := fun m => a247 X hs m
  have h121 := a121 G (l := l) (k := 247) (a := []) (b := [.fp [.sl (strs ns)] 0 0]) (p := fun i => !hasN ns (nth l i).1) (by omega) (fun m σ => rfl) (fun i m hm => by
    rw [hb247 m]
    have : nth l i = m := by unfold nth; rw [hm]; rfl
    rw [this])
  have hp12 := hp.fz (labs_fz σ l)
  have hp12' : fz σ dep p = some (.sl (labs l)) := hp12
  have hq12 : fz σ dep (.fn 247 [] [.bx 3 g3 1 0 0]) = some (.fn 247 [] [.fp [.sl (strs ns)] 0 0]) := by
    show fz σ (11 + 1) _ = _
    rw [fz_fn]
    simp only [mapM_cons', mapM_nil', fz_bx, hq, List.length_cons, List.length_nil]
    rfl
  refine EV_wp' (Y (246, d246) (by simp [ly])) rfl ?_
  (repeat' first
    | refine w_seq ?_
    | refine w_rg ?_
    | refine wo_nil ?_
    | refine s_plain (by simp only [go_sem, Nat.reduceEqDiff, Nat.reduceAdd, Nat.reduceLeDiff]; first | done | rfl) ?_
    | refine s_void (by simp only [go_sem, Nat.reduceEqDiff, Nat.reduceAdd, Nat.reduceLeDiff]; first | done | rfl) ?_
    | refine s_guard (by simp only [go_sem, Nat.reduceEqDiff, Nat.reduceAdd, Nat.reduceLeDiff]; first | done | rfl) ?_
    | refine g_skU ?_
    | refine g_T (by intro hb; simp only [go_sem, Nat.reduceEqDiff, Nat.reduceAdd, Nat.reduceLeDiff, hb]; first | done | rfl) ?_
    | refine g_F (by intro hb; simp only [go_sem, Nat.reduceEqDiff, Nat.reduceAdd, Nat.reduceLeDiff, hb]; first | done | rfl) ?_
    | refine g_gT (by intro hb hc; simp only [go_sem, Nat.reduceEqDiff, Nat.reduceAdd, Nat.reduceLeDiff, hb, hc]; first | done | rfl) ?_
    | refine g_gF (by intro hb hc; simp only [go_sem, Nat.reduceEqDiff, Nat.reduceAdd, Nat.reduceLeDiff, hb, hc]; first | done | rfl) ?_
    | refine g_skT ?_
    | refine g_skF ?_
    | refine g_goT (by simp only [go_sem, Nat.reduceEqDiff, Nat.reduceAdd, Nat.reduceLeDiff]; first | done | rfl) ?_
    | refine g_goF (by simp only [go_sem, Nat.reduceEqDiff, Nat.reduceAdd, Nat.reduceLeDiff]; first | done | rfl) ?_
    )
  refine s_callF (as := [.sl (labs l), .fn 247 [] [.fp [.sl (strs ns)] 0 0]]) (by
    have e8 : pa (((((frOf [p, .fn 247 [] [.bx 3 g3 1 0 0]]).set 4 PV.em).set 8 p).set 9 (.fn 247 [] [.bx 3 g3 1 0 0]))) (.t 8) = p := by simp only [go_sem, Nat.reduceEqDiff, Nat.reduceAdd, Nat.reduceLeDiff]
    have e9 : pa (((((frOf [p, .fn 247 [] [.bx 3 g3 1 0 0]]).set 4 PV.em).set 8 p).set 9 (.fn 247 [] [.bx 3 g3 1 0 0]))) (.t 9) = .fn 247 [] [.bx 3 g3 1 0 0] := by simp only [go_sem, Nat.reduceEqDiff, Nat.reduceAdd, Nat.reduceLeDiff]
    simp only [List.map_cons, List.map_nil, e8, e9, mapM_cons', mapM_nil', hp12', hq12, Option.bind_some, Option.map_some]) h121 rfl ?_
  (repeat' first
    | refine w_seq ?_
    | refine w_rg ?_
    | refine wo_nil ?_
    | refine s_plain (by simp only [go_sem, Nat.reduceEqDiff, Nat.reduceAdd, Nat.reduceLeDiff]; first | done | rfl) ?_
    | refine s_void (by simp only [go_sem, Nat.reduceEqDiff, Nat.reduceAdd, Nat.reduceLeDiff]; first | done | rfl) ?_
    | refine s_guard (by simp only [go_sem, Nat.reduceEqDiff, Nat.reduceAdd, Nat.reduceLeDiff]; first | done | rfl) ?_
    | refine g_skU ?_
    | refine g_T (by intro hb; simp only [go_sem, Nat.reduceEqDiff, Nat.reduceAdd, Nat.reduceLeDiff, hb]; first | done | rfl) ?_
    | refine g_F (by intro hb; simp only [go_sem, Nat.reduceEqDiff, Nat.reduceAdd, Nat.reduceLeDiff, hb]; first | done | rfl) ?_
    | refine g_gT (by intro hb hc; simp only [go_sem, Nat.reduceEqDiff, Nat.reduceAdd, Nat.reduceLeDiff, hb, hc]; first | done | rfl) ?_
    | refine g_gF (by intro hb hc; simp only [go_sem, Nat.reduceEqDiff, Nat.reduceAdd, Nat.reduceLeDiff, hb, hc]; first | done | rfl) ?_
    | refine g_skT ?_
    | refine g_skF ?_
    | refine g_goT (by simp only [go_sem, Nat.reduceEqDiff, Nat.reduceAdd, Nat.reduceLeDiff]; first | done | rfl) ?_
    | refine g_goF (by simp only [go_sem, Nat.reduceEqDiff, Nat.reduceAdd, Nat.reduceLeDiff]; first | done | rfl) ?_
    )
  rcases found_cases (fun i => !hasN ns (nth l i).1) l.length with h0 | ⟨i0, h0⟩
  · have hall := found_no (p := fun i => !hasN ns (nth l i).1) (n := l.length) (by omega)
    have hk := keepL_all (l := l) (ns := ns) (fun j hj => by simpa using hall j hj)
    rw [h0]
    (repeat' first
    | refine w_seq ?_
    | refine w_rg ?_
    | refine wo_nil ?_
    | refine s_plain (by simp only [go_sem, Nat.reduceEqDiff, Nat.reduceAdd, Nat.reduceLeDiff]; first | done | rfl) ?_
    | refine s_void (by simp only [go_sem, Nat.reduceEqDiff, Nat.reduceAdd, Nat.reduceLeDiff]; first | done | rfl) ?_
    | refine s_guard (by simp only [go_sem, Nat.reduceEqDiff, Nat.reduceAdd, Nat.reduceLeDiff]; first | done | rfl) ?_
    | refine g_skU ?_
    | refine g_T (by intro hb; simp only [go_sem, Nat.reduceEqDiff, Nat.reduceAdd, Nat.reduceLeDiff, hb]; first | done | rfl) ?_
    | refine g_F (by intro hb; simp only [go_sem, Nat.reduceEqDiff, Nat.reduceAdd, Nat.reduceLeDiff, hb]; first | done | rfl) ?_
    | refine g_gT (by intro hb hc; simp only [go_sem, Nat.reduceEqDiff, Nat.reduceAdd, Nat.reduceLeDiff, hb, hc]; first | done | rfl) ?_
    | refine g_gF (by intro hb hc; simp only [go_sem, Nat.reduceEqDiff, Nat.reduceAdd, Nat.reduceLeDiff, hb, hc]; first | done | rfl) ?_
    | refine g_skT ?_
    | refine g_skF ?_
    | refine g_goT (by simp only [go_sem, Nat.reduceEqDiff, Nat.reduceAdd, Nat.reduceLeDiff]; first | done | rfl) ?_
    | refine g_goF (by simp only [go_sem, Nat.reduceEqDiff, Nat.reduceAdd, Nat.reduceLeDiff]; first | done | rfl) ?_
    | refine w_condT (by simp only [go_sem, Nat.reduceEqDiff, Nat.reduceAdd, Nat.reduceLeDiff]; first | done | rfl) ?_
    | refine w_condF (by simp only [go_sem, Nat.reduceEqDiff, Nat.reduceAdd, Nat.reduceLeDiff]; first | done | rfl) ?_
    | refine w_skip ?_
    | refine w_exit ?_
    | refine w_ret ?_
    )
    exact ⟨.inr rfl, p, by simp only [go_sem, Nat.reduceEqDiff, Nat.reduceAdd, Nat.reduceLeDiff, retOf, resOf], by rw [hk]; exact gat_fzd hp (labs_fzd σ 8 l)⟩
  · obtain ⟨hi0, hpi, hmin⟩ := found_min h0
    rw [h0]
    have hne1 : ((i0 : Int) == -1) = false := by
      rw [beq_eq_false_iff_ne]; omega
    have w1 : IntKind.i64.wrap ((i0 : Int) + 1) = ((i0 + 1 : Nat) : Int) := wrap_succ hi0 (by omega)
    obtain ⟨g, rfl, hm, hgc⟩ : ∃ g, p = .ob 7 g 2 0 l.length ∧ σ.m 7 g = some ⟨2, labs l, true, true⟩ ∧ g < σ.c 7 := by
      rcases hp with ⟨_, h⟩ | ⟨o, g, wr, h0, h1, h2, h3, h4, h5⟩
      · have := labs_len l; rw [h] at this; simp at this; omega
      · simp only [List.mem_singleton] at h0
        subst h0
        rw [h5 rfl] at h2
        rw [labs_len] at h1
        exact ⟨g, h1, h2, h3⟩
    (repeat' first
    | refine w_seq ?_
    | refine w_rg ?_
    | refine wo_nil ?_
    | refine s_plain (by simp only [go_sem, Nat.reduceEqDiff, Nat.reduceAdd, Nat.reduceLeDiff, hne1]; first | done | rfl) ?_
    | refine s_void (by simp only [go_sem, Nat.reduceEqDiff, Nat.reduceAdd, Nat.reduceLeDiff, hne1]; first | done | rfl) ?_
    | refine s_guard (by simp only [go_sem, Nat.reduceEqDiff, Nat.reduceAdd, Nat.reduceLeDiff, hne1]; first | done | rfl) ?_
    | refine g_skU ?_
    | refine g_T (by intro hb; simp only [go_sem, Nat.reduceEqDiff, Nat.reduceAdd, Nat.reduceLeDiff, hne1, hb]; first | done | rfl) ?_
    | refine g_F (by intro hb; simp only [go_sem, Nat.reduceEqDiff, Nat.reduceAdd, Nat.reduceLeDiff, hne1, hb]; first | done | rfl) ?_
    | refine g_gT (by intro hb hc; simp only [go_sem, Nat.reduceEqDiff, Nat.reduceAdd, Nat.reduceLeDiff, hne1, hb, hc]; first | done | rfl) ?_
    | refine g_gF (by intro hb hc; simp only [go_sem, Nat.reduceEqDiff, Nat.reduceAdd, Nat.reduceLeDiff, hne1, hb, hc]; first | done | rfl) ?_
    | refine g_skT ?_
    | refine g_skF ?_
    | refine g_goT (by simp only [go_sem, Nat.reduceEqDiff, Nat.reduceAdd, Nat.reduceLeDiff, hne1]; first | done | rfl) ?_
    | refine g_goF (by simp only [go_sem, Nat.reduceEqDiff, Nat.reduceAdd, Nat.reduceLeDiff, hne1]; first | done | rfl) ?_
    | refine w_condT (by simp only [go_sem, Nat.reduceEqDiff, Nat.reduceAdd, Nat.reduceLeDiff, hne1]; first | done | rfl) ?_
    | refine w_condF (by simp only [go_sem, Nat.reduceEqDiff, Nat.reduceAdd, Nat.reduceLeDiff, hne1]; first | done | rfl) ?_
    | refine w_skip ?_
    | refine w_exit ?_
    | refine w_ret ?_
    )
    (repeat' first
    | refine w_seq ?_
    | refine w_rg ?_
    | refine wo_nil ?_
    | refine s_plain (by simp only [go_sem, Nat.reduceEqDiff, Nat.reduceAdd, Nat.reduceLeDiff, w1]; first | done | rfl) ?_
    | refine s_void (by simp only [go_sem, Nat.reduceEqDiff, Nat.reduceAdd, Nat.reduceLeDiff, w1]; first | done | rfl) ?_
    | refine s_guard (by simp only [go_sem, Nat.reduceEqDiff, Nat.reduceAdd, Nat.reduceLeDiff, w1]; first | done | rfl) ?_
    | refine g_skU ?_
    | refine g_T (by intro hb; simp only [go_sem, Nat.reduceEqDiff, Nat.reduceAdd, Nat.reduceLeDiff, w1, hb]; first | done | rfl) ?_
    | refine g_F (by intro hb; simp only [go_sem, Nat.reduceEqDiff, Nat.reduceAdd, Nat.reduceLeDiff, w1, hb]; first | done | rfl) ?_
    | refine g_gT (by intro hb hc; simp only [go_sem, Nat.reduceEqDiff, Nat.reduceAdd, Nat.reduceLeDiff, w1, hb, hc]; first | done | rfl) ?_
    | refine g_gF (by intro hb hc; simp only [go_sem, Nat.reduceEqDiff, Nat.reduceAdd, Nat.reduceLeDiff, w1, hb, hc]; first | done | rfl) ?_
    | refine g_skT ?_
    | refine g_skF ?_
    | refine g_goT (by simp only [go_sem, Nat.reduceEqDiff, Nat.reduceAdd, Nat.reduceLeDiff, w1]; first | done | rfl) ?_
    | refine g_goF (by simp only [go_sem, Nat.reduceEqDiff, Nat.reduceAdd, Nat.reduceLeDiff, w1]; first | done | rfl) ?_
    )
    refine w_block (w_count (l.length - (i0 + 1)) (fun c fr σ => ∃ i X, Del l ns g g3 i (i0 + 1 + c) X fr σ) ?_ _ _ ?_)
    · rintro c fr σ hc ⟨i, X, f0, f1, f5, f6, lx, ij, tk, dr, mm, gc, wq, mq⟩
      by_cases hlt : i0 + 1 + c < l.length
      · have hd : decide (((i0 + 1 + c : Nat) : Int) < (l.length : Int)) = true := by simp; omega
        have hA : (labs X).length = l.length := by rw [labs_len]; exact lx
        have hXj : X[i0 + 1 + c]? = some l[i0 + 1 + c] := by
          have : (X.drop (i0 + 1 + c))[0]? = (l.drop (i0 + 1 + c))[0]? := by rw [dr]
          simpa [List.getElem?_eq_getElem hlt] using this
        have x1 := labs_at hXj
        simp only [lab] at x1
        have e1 : (0 : Int) ≤ ((i0 + 1 + c : Nat) : Int) ∧ ((i0 + 1 + c : Nat) : Int) < (l.length : Int) := by omega
        have e2 : (0 : Int) ≤ (i : Int) ∧ (i : Int) < (l.length : Int) := by omega
        have hgn : ¬ g = σ.c 7 := by omega
        have h247 := hb247 l[i0 + 1 + c]
        simp only [lab, List.nil_append, List.cons_append] at h247
        have wj : IntKind.i64.wrap (((i0 + 1 + c : Nat) : Int) + 1) = ((i0 + 1 + (c + 1) : Nat) : Int) := wrap_succ hlt (by omega)
        have wi : IntKind.i64.wrap ((i : Int) + 1) = ((i + 1 : Nat) : Int) := wrap_succ (n := l.length) (by omega) (by omega)
        have il : i < (labs X).length := by rw [hA]; omega
        have hks := keepL_succ (ns := ns) hlt
        (repeat' first
    | refine w_seq ?_
    | refine w_rg ?_
    | refine wo_nil ?_
    | refine s_plain (by simp only [go_sem, Nat.reduceEqDiff, Nat.reduceAdd, Nat.reduceLeDiff, f0, f6, hd]; first | done | rfl) ?_
    | refine s_void (by simp only [go_sem, Nat.reduceEqDiff, Nat.reduceAdd, Nat.reduceLeDiff, f0, f6, hd]; first | done | rfl) ?_
    | refine s_guard (by simp only [go_sem, Nat.reduceEqDiff, Nat.reduceAdd, Nat.reduceLeDiff, f0, f6, hd]; first | done | rfl) ?_
    | refine g_skU ?_
    | refine g_T (by intro hb; simp only [go_sem, Nat.reduceEqDiff, Nat.reduceAdd, Nat.reduceLeDiff, f0, f6, hd, hb]; first | done | rfl) ?_
    | refine g_F (by intro hb; simp only [go_sem, Nat.reduceEqDiff, Nat.reduceAdd, Nat.reduceLeDiff, f0, f6, hd, hb]; first | done | rfl) ?_
    | refine g_gT (by intro hb hc; simp only [go_sem, Nat.reduceEqDiff, Nat.reduceAdd, Nat.reduceLeDiff, f0, f6, hd, hb, hc]; first | done | rfl) ?_
    | refine g_gF (by intro hb hc; simp only [go_sem, Nat.reduceEqDiff, Nat.reduceAdd, Nat.reduceLeDiff, f0, f6, hd, hb, hc]; first | done | rfl) ?_
    | refine g_skT ?_
    | refine g_skF ?_
    | refine g_goT (by simp only [go_sem, Nat.reduceEqDiff, Nat.reduceAdd, Nat.reduceLeDiff, f0, f6, hd]; first | done | rfl) ?_
    | refine g_goF (by simp only [go_sem, Nat.reduceEqDiff, Nat.reduceAdd, Nat.reduceLeDiff, f0, f6, hd]; first | done | rfl) ?_
    | refine w_condT (by simp only [go_sem, Nat.reduceEqDiff, Nat.reduceAdd, Nat.reduceLeDiff, f0, f6, hd]; first | done | rfl) ?_
    | refine w_condF (by simp only [go_sem, Nat.reduceEqDiff, Nat.reduceAdd, Nat.reduceLeDiff, f0, f6, hd]; first | done | rfl) ?_
    | refine w_skip ?_
    | refine w_exit ?_
    | refine w_ret ?_
    )
        refine w_block ?_
        (repeat' first
    | refine w_seq ?_
    | refine w_rg ?_
    | refine wo_nil ?_
    | refine s_plain (by simp only [go_sem, Nat.reduceEqDiff, Nat.reduceAdd, Nat.reduceLeDiff, f0, f1, f6, f5, mm, mq, e1, hgn, Int.toNat_natCast, x1, List.modify_zero_cons, h247]; first | done | rfl) ?_
    | refine s_void (by simp only [go_sem, Nat.reduceEqDiff, Nat.reduceAdd, Nat.reduceLeDiff, f0, f1, f6, f5, mm, mq, e1, hgn, Int.toNat_natCast, x1, List.modify_zero_cons, h247]; first | done | rfl) ?_
    | refine s_guard (by simp only [go_sem, Nat.reduceEqDiff, Nat.reduceAdd, Nat.reduceLeDiff, f0, f1, f6, f5, mm, mq, e1, hgn, Int.toNat_natCast, x1, List.modify_zero_cons, h247]; first | done | rfl) ?_
    | refine g_skU ?_
    | refine g_T (by intro hb; simp only [go_sem, Nat.reduceEqDiff, Nat.reduceAdd, Nat.reduceLeDiff, f0, f1, f6, f5, mm, mq, e1, hgn, Int.toNat_natCast, x1, List.modify_zero_cons, h247, hb]; first | done | rfl) ?_
    | refine g_F (by intro hb; simp only [go_sem, Nat.reduceEqDiff, Nat.reduceAdd, Nat.reduceLeDiff, f0, f1, f6, f5, mm, mq, e1, hgn, Int.toNat_natCast, x1, List.modify_zero_cons, h247, hb]; first | done | rfl) ?_
    | refine g_gT (by intro hb hc; simp only [go_sem, Nat.reduceEqDiff, Nat.reduceAdd, Nat.reduceLeDiff, f0, f1, f6, f5, mm, mq, e1, hgn, Int.toNat_natCast, x1, List.modify_zero_cons, h247, hb, hc]; first | done | rfl) ?_
    | refine g_gF (by intro hb hc; simp only [go_sem, Nat.reduceEqDiff, Nat.reduceAdd, Nat.reduceLeDiff, f0, f1, f6, f5, mm, mq, e1, hgn, Int.toNat_natCast, x1, List.modify_zero_cons, h247, hb, hc]; first | done | rfl) ?_
    | refine g_skT ?_
    | refine g_skF ?_
    | refine g_goT (by simp only [go_sem, Nat.reduceEqDiff, Nat.reduceAdd, Nat.reduceLeDiff, f0, f1, f6, f5, mm, mq, e1, hgn, Int.toNat_natCast, x1, List.modify_zero_cons, h247]; first | done | rfl) ?_
    | refine g_goF (by simp only [go_sem, Nat.reduceEqDiff, Nat.reduceAdd, Nat.reduceLeDiff, f0, f1, f6, f5, mm, mq, e1, hgn, Int.toNat_natCast, x1, List.modify_zero_cons, h247]; first | done | rfl) ?_
    )
        cases hk : hasN ns l[i0 + 1 + c].1 with
        | false =>
          rw [hk, if_neg (by decide), List.append_nil] at hks
          (repeat' first
    | refine w_seq ?_
    | refine w_rg ?_
    | refine wo_nil ?_
    | refine s_plain (by simp only [go_sem, Nat.reduceEqDiff, Nat.reduceAdd, Nat.reduceLeDiff]; first | done | rfl) ?_
    | refine s_void (by simp only [go_sem, Nat.reduceEqDiff, Nat.reduceAdd, Nat.reduceLeDiff]; first | done | rfl) ?_
    | refine s_guard (by simp only [go_sem, Nat.reduceEqDiff, Nat.reduceAdd, Nat.reduceLeDiff]; first | done | rfl) ?_
    | refine g_skU ?_
    | refine g_T (by intro hb; simp only [go_sem, Nat.reduceEqDiff, Nat.reduceAdd, Nat.reduceLeDiff, hb]; first | done | rfl) ?_
    | refine g_F (by intro hb; simp only [go_sem, Nat.reduceEqDiff, Nat.reduceAdd, Nat.reduceLeDiff, hb]; first | done | rfl) ?_
    | refine g_gT (by intro hb hc; simp only [go_sem, Nat.reduceEqDiff, Nat.reduceAdd, Nat.reduceLeDiff, hb, hc]; first | done | rfl) ?_
    | refine g_gF (by intro hb hc; simp only [go_sem, Nat.reduceEqDiff, Nat.reduceAdd, Nat.reduceLeDiff, hb, hc]; first | done | rfl) ?_
    | refine g_skT ?_
    | refine g_skF ?_
    | refine g_goT (by simp only [go_sem, Nat.reduceEqDiff, Nat.reduceAdd, Nat.reduceLeDiff]; first | done | rfl) ?_
    | refine g_goF (by simp only [go_sem, Nat.reduceEqDiff, Nat.reduceAdd, Nat.reduceLeDiff]; first | done | rfl) ?_
    | refine w_condT (by simp only [go_sem, Nat.reduceEqDiff, Nat.reduceAdd, Nat.reduceLeDiff]; first | done | rfl) ?_
    | refine w_condF (by simp only [go_sem, Nat.reduceEqDiff, Nat.reduceAdd, Nat.reduceLeDiff]; first | done | rfl) ?_
    | refine w_skip ?_
    | refine w_exit ?_
    | refine w_ret ?_
    )
          (repeat' first
    | refine w_seq ?_
    | refine w_rg ?_
    | refine wo_nil ?_
    | refine s_plain (by simp only [go_sem, Nat.reduceEqDiff, Nat.reduceAdd, Nat.reduceLeDiff, f6, wj]; first | done | rfl) ?_
    | refine s_void (by simp only [go_sem, Nat.reduceEqDiff, Nat.reduceAdd, Nat.reduceLeDiff, f6, wj]; first | done | rfl) ?_
    | refine s_guard (by simp only [go_sem, Nat.reduceEqDiff, Nat.reduceAdd, Nat.reduceLeDiff, f6, wj]; first | done | rfl) ?_
    | refine g_skU ?_
    | refine g_T (by intro hb; simp only [go_sem, Nat.reduceEqDiff, Nat.reduceAdd, Nat.reduceLeDiff, f6, wj, hb]; first | done | rfl) ?_
    | refine g_F (by intro hb; simp only [go_sem, Nat.reduceEqDiff, Nat.reduceAdd, Nat.reduceLeDiff, f6, wj, hb]; first | done | rfl) ?_
    | refine g_gT (by intro hb hc; simp only [go_sem, Nat.reduceEqDiff, Nat.reduceAdd, Nat.reduceLeDiff, f6, wj, hb, hc]; first | done | rfl) ?_
    | refine g_gF (by intro hb hc; simp only [go_sem, Nat.reduceEqDiff, Nat.reduceAdd, Nat.reduceLeDiff, f6, wj, hb, hc]; first | done | rfl) ?_
    | refine g_skT ?_
    | refine g_skF ?_
    | refine g_goT (by simp only [go_sem, Nat.reduceEqDiff, Nat.reduceAdd, Nat.reduceLeDiff, f6, wj]; first | done | rfl) ?_
    | refine g_goF (by simp only [go_sem, Nat.reduceEqDiff, Nat.reduceAdd, Nat.reduceLeDiff, f6, wj]; first | done | rfl) ?_
    )
          refine ⟨by omega, i, X, ?_, ?_, ?_, ?_, lx, by omega, ?_, ?_, ?_, ?_, wq, ?_⟩
          · simp only [go_sem, Nat.reduceEqDiff, Nat.reduceAdd, Nat.reduceLeDiff, f0]
          · simp only [go_sem, Nat.reduceEqDiff, Nat.reduceAdd, Nat.reduceLeDiff, f1]
          · simp only [go_sem, Nat.reduceEqDiff, Nat.reduceAdd, Nat.reduceLeDiff, f5]
          · simp only [go_sem, Nat.reduceEqDiff, Nat.reduceAdd, Nat.reduceLeDiff]
          · rw [tk]; exact hks.symm
          · have : (X.drop (i0 + 1 + c)).drop 1 = (l.drop (i0 + 1 + c)).drop 1 := by rw [dr]
            simpa [List.drop_drop, Nat.add_assoc] using this
          · simp only [go_sem, Nat.reduceEqDiff, Nat.reduceAdd, Nat.reduceLeDiff, hgn, mm]
          · simp only [go_sem, Nat.reduceEqDiff, Nat.reduceAdd, Nat.reduceLeDiff]; omega
          · simp only [go_sem, Nat.reduceEqDiff, Nat.reduceAdd, Nat.reduceLeDiff, mq]
        | true =>
          rw [hk, if_pos rfl] at hks
          (repeat' first
    | refine w_seq ?_
    | refine w_rg ?_
    | refine wo_nil ?_
    | refine s_plain (by simp only [go_sem, Nat.reduceEqDiff, Nat.reduceAdd, Nat.reduceLeDiff]; first | done | rfl) ?_
    | refine s_void (by simp only [go_sem, Nat.reduceEqDiff, Nat.reduceAdd, Nat.reduceLeDiff]; first | done | rfl) ?_
    | refine s_guard (by simp only [go_sem, Nat.reduceEqDiff, Nat.reduceAdd, Nat.reduceLeDiff]; first | done | rfl) ?_
    | refine g_skU ?_
    | refine g_T (by intro hb; simp only [go_sem, Nat.reduceEqDiff, Nat.reduceAdd, Nat.reduceLeDiff, hb]; first | done | rfl) ?_
    | refine g_F (by intro hb; simp only [go_sem, Nat.reduceEqDiff, Nat.reduceAdd, Nat.reduceLeDiff, hb]; first | done | rfl) ?_
    | refine g_gT (by intro hb hc; simp only [go_sem, Nat.reduceEqDiff, Nat.reduceAdd, Nat.reduceLeDiff, hb, hc]; first | done | rfl) ?_
    | refine g_gF (by intro hb hc; simp only [go_sem, Nat.reduceEqDiff, Nat.reduceAdd, Nat.reduceLeDiff, hb, hc]; first | done | rfl) ?_
    | refine g_skT ?_
    | refine g_skF ?_
    | refine g_goT (by simp only [go_sem, Nat.reduceEqDiff, Nat.reduceAdd, Nat.reduceLeDiff]; first | done | rfl) ?_
    | refine g_goF (by simp only [go_sem, Nat.reduceEqDiff, Nat.reduceAdd, Nat.reduceLeDiff]; first | done | rfl) ?_
    | refine w_condT (by simp only [go_sem, Nat.reduceEqDiff, Nat.reduceAdd, Nat.reduceLeDiff]; first | done | rfl) ?_
    | refine w_condF (by simp only [go_sem, Nat.reduceEqDiff, Nat.reduceAdd, Nat.reduceLeDiff]; first | done | rfl) ?_
    | refine w_skip ?_
    | refine w_exit ?_
    | refine w_ret ?_
    )
          (repeat' first
    | refine w_seq ?_
    | refine w_rg ?_
    | refine wo_nil ?_
    | refine s_plain (by simp only [go_sem, Nat.reduceEqDiff, Nat.reduceAdd, Nat.reduceLeDiff, f0, f5, mm, e2, hgn, Int.toNat_natCast, il]; first | done | rfl) ?_
    | refine s_void (by simp only [go_sem, Nat.reduceEqDiff, Nat.reduceAdd, Nat.reduceLeDiff, f0, f5, mm, e2, hgn, Int.toNat_natCast, il]; first | done | rfl) ?_
    | refine s_guard (by simp only [go_sem, Nat.reduceEqDiff, Nat.reduceAdd, Nat.reduceLeDiff, f0, f5, mm, e2, hgn, Int.toNat_natCast, il]; first | done | rfl) ?_
    | refine g_skU ?_
    | refine g_T (by intro hb; simp only [go_sem, Nat.reduceEqDiff, Nat.reduceAdd, Nat.reduceLeDiff, f0, f5, mm, e2, hgn, Int.toNat_natCast, il, hb]; first | done | rfl) ?_
    | refine g_F (by intro hb; simp only [go_sem, Nat.reduceEqDiff, Nat.reduceAdd, Nat.reduceLeDiff, f0, f5, mm, e2, hgn, Int.toNat_natCast, il, hb]; first | done | rfl) ?_
    | refine g_gT (by intro hb hc; simp only [go_sem, Nat.reduceEqDiff, Nat.reduceAdd, Nat.reduceLeDiff, f0, f5, mm, e2, hgn, Int.toNat_natCast, il, hb, hc]; first | done | rfl) ?_
    | refine g_gF (by intro hb hc; simp only [go_sem, Nat.reduceEqDiff, Nat.reduceAdd, Nat.reduceLeDiff, f0, f5, mm, e2, hgn, Int.toNat_natCast, il, hb, hc]; first | done | rfl) ?_
    | refine g_skT ?_
    | refine g_skF ?_
    | refine g_goT (by simp only [go_sem, Nat.reduceEqDiff, Nat.reduceAdd, Nat.reduceLeDiff, f0, f5, mm, e2, hgn, Int.toNat_natCast, il]; first | done | rfl) ?_
    | refine g_goF (by simp only [go_sem, Nat.reduceEqDiff, Nat.reduceAdd, Nat.reduceLeDiff, f0, f5, mm, e2, hgn, Int.toNat_natCast, il]; first | done | rfl) ?_
    )
          (repeat' first
    | refine w_seq ?_
    | refine w_rg ?_
    | refine wo_nil ?_
    | refine s_plain (by simp only [go_sem, Nat.reduceEqDiff, Nat.reduceAdd, Nat.reduceLeDiff, f6, wj, wi]; first | done | rfl) ?_
    | refine s_void (by simp only [go_sem, Nat.reduceEqDiff, Nat.reduceAdd, Nat.reduceLeDiff, f6, wj, wi]; first | done | rfl) ?_
    | refine s_guard (by simp only [go_sem, Nat.reduceEqDiff, Nat.reduceAdd, Nat.reduceLeDiff, f6, wj, wi]; first | done | rfl) ?_
    | refine g_skU ?_
    | refine g_T (by intro hb; simp only [go_sem, Nat.reduceEqDiff, Nat.reduceAdd, Nat.reduceLeDiff, f6, wj, wi, hb]; first | done | rfl) ?_
    | refine g_F (by intro hb; simp only [go_sem, Nat.reduceEqDiff, Nat.reduceAdd, Nat.reduceLeDiff, f6, wj, wi, hb]; first | done | rfl) ?_
    | refine g_gT (by intro hb hc; simp only [go_sem, Nat.reduceEqDiff, Nat.reduceAdd, Nat.reduceLeDiff, f6, wj, wi, hb, hc]; first | done | rfl) ?_
    | refine g_gF (by intro hb hc; simp only [go_sem, Nat.reduceEqDiff, Nat.reduceAdd, Nat.reduceLeDiff, f6, wj, wi, hb, hc]; first | done | rfl) ?_
    | refine g_skT ?_
    | refine g_skF ?_
    | refine g_goT (by simp only [go_sem, Nat.reduceEqDiff, Nat.reduceAdd, Nat.reduceLeDiff, f6, wj, wi]; first | done | rfl) ?_
    | refine g_goF (by simp only [go_sem, Nat.reduceEqDiff, Nat.reduceAdd, Nat.reduceLeDiff, f6, wj, wi]; first | done | rfl) ?_
    )
          refine ⟨by omega, i + 1, X.set i l[i0 + 1 + c], ?_, ?_, ?_, ?_, by simp [lx], by omega, ?_, ?_, ?_, ?_, wq, ?_⟩
          · simp only [go_sem, Nat.reduceEqDiff, Nat.reduceAdd, Nat.reduceLeDiff, f0]
          · simp only [go_sem, Nat.reduceEqDiff, Nat.reduceAdd, Nat.reduceLeDiff, f1]
          · simp only [go_sem, Nat.reduceEqDiff, Nat.reduceAdd, Nat.reduceLeDiff, wi]
          · simp only [go_sem, Nat.reduceEqDiff, Nat.reduceAdd, Nat.reduceLeDiff]
          · show List.take (i + 1) _ = keepL (l.take (i0 + 1 + c + 1)) ns
            rw [hks, ← tk, List.take_succ_eq_append_getElem (by rw [List.length_set]; omega), List.take_set_of_le (Nat.le_refl _)]
            simp
          · have : (X.drop (i0 + 1 + c)).drop 1 = (l.drop (i0 + 1 + c)).drop 1 := by rw [dr]
            rw [List.drop_set, if_pos (by omega)]
            simpa [List.drop_drop, Nat.add_assoc] using this
          · simp only [go_sem, Nat.reduceEqDiff, Nat.reduceAdd, Nat.reduceLeDiff, hgn, mm]
            rw [modify_set]
            have q := labs_set X i l[i0 + 1 + c]
            simp only [lab] at q
            rw [q]
          · simp only [go_sem, Nat.reduceEqDiff, Nat.reduceAdd, Nat.reduceLeDiff]; omega
          · simp only [go_sem, Nat.reduceEqDiff, Nat.reduceAdd, Nat.reduceLeDiff, mq]
      · have hd : decide (((i0 + 1 + c : Nat) : Int) < (l.length : Int)) = false := by simp; omega
        (repeat' first
    | refine w_seq ?_
    | refine w_rg ?_
    | refine wo_nil ?_
    | refine s_plain (by simp only [go_sem, Nat.reduceEqDiff, Nat.reduceAdd, Nat.reduceLeDiff, f0, f6, hd]; first | done | rfl) ?_
    | refine s_void (by simp only [go_sem, Nat.reduceEqDiff, Nat.reduceAdd, Nat.reduceLeDiff, f0, f6, hd]; first | done | rfl) ?_
    | refine s_guard (by simp only [go_sem, Nat.reduceEqDiff, Nat.reduceAdd, Nat.reduceLeDiff, f0, f6, hd]; first | done | rfl) ?_
    | refine g_skU ?_
    | refine g_T (by intro hb; simp only [go_sem, Nat.reduceEqDiff, Nat.reduceAdd, Nat.reduceLeDiff, f0, f6, hd, hb]; first | done | rfl) ?_
    | refine g_F (by intro hb; simp only [go_sem, Nat.reduceEqDiff, Nat.reduceAdd, Nat.reduceLeDiff, f0, f6, hd, hb]; first | done | rfl) ?_
    | refine g_gT (by intro hb hc; simp only [go_sem, Nat.reduceEqDiff, Nat.reduceAdd, Nat.reduceLeDiff, f0, f6, hd, hb, hc]; first | done | rfl) ?_
    | refine g_gF (by intro hb hc; simp only [go_sem, Nat.reduceEqDiff, Nat.reduceAdd, Nat.reduceLeDiff, f0, f6, hd, hb, hc]; first | done | rfl) ?_
    | refine g_skT ?_
    | refine g_skF ?_
    | refine g_goT (by simp only [go_sem, Nat.reduceEqDiff, Nat.reduceAdd, Nat.reduceLeDiff, f0, f6, hd]; first | done | rfl) ?_
    | refine g_goF (by simp only [go_sem, Nat.reduceEqDiff, Nat.reduceAdd, Nat.reduceLeDiff, f0, f6, hd]; first | done | rfl) ?_
    | refine w_condT (by simp only [go_sem, Nat.reduceEqDiff, Nat.reduceAdd, Nat.reduceLeDiff, f0, f6, hd]; first | done | rfl) ?_
    | refine w_condF (by simp only [go_sem, Nat.reduceEqDiff, Nat.reduceAdd, Nat.reduceLeDiff, f0, f6, hd]; first | done | rfl) ?_
    | refine w_skip ?_
    | refine w_exit ?_
    | refine w_ret ?_
    )
        try simp only [if_true]
        have hA : (labs X).length = l.length := by rw [labs_len]; exact lx
        have bi : bound l.length (.sc (.int .i64 (i : Int))) = some i := bound_nat (by omega)
        have e3 : i + (l.length - i) ≤ (labs X).length := by omega
        have e3' : (i ≤ l.length) = True := by simp; omega
        rw [List.take_of_length_le (by omega : l.length ≤ i0 + 1 + c)] at tk
        (repeat' first
    | refine w_seq ?_
    | refine w_rg ?_
    | refine wo_nil ?_
    | refine s_plain (by simp only [go_sem, Nat.reduceEqDiff, Nat.reduceAdd, Nat.reduceLeDiff, f0, f5, slcLP, bi, bound_nat (Nat.le_refl l.length), mm, e3, Nat.zero_add, Nat.sub_zero]; first | done | rfl) ?_
    | refine s_void (by simp only [go_sem, Nat.reduceEqDiff, Nat.reduceAdd, Nat.reduceLeDiff, f0, f5, slcLP, bi, bound_nat (Nat.le_refl l.length), mm, e3, Nat.zero_add, Nat.sub_zero]; first | done | rfl) ?_
    | refine s_guard (by simp only [go_sem, Nat.reduceEqDiff, Nat.reduceAdd, Nat.reduceLeDiff, f0, f5, slcLP, bi, bound_nat (Nat.le_refl l.length), mm, e3, Nat.zero_add, Nat.sub_zero]; first | done | rfl) ?_
    | refine g_skU ?_
    | refine g_T (by intro hb; simp only [go_sem, Nat.reduceEqDiff, Nat.reduceAdd, Nat.reduceLeDiff, f0, f5, slcLP, bi, bound_nat (Nat.le_refl l.length), mm, e3, Nat.zero_add, Nat.sub_zero, hb]; first | done | rfl) ?_
    | refine g_F (by intro hb; simp only [go_sem, Nat.reduceEqDiff, Nat.reduceAdd, Nat.reduceLeDiff, f0, f5, slcLP, bi, bound_nat (Nat.le_refl l.length), mm, e3, Nat.zero_add, Nat.sub_zero, hb]; first | done | rfl) ?_
    | refine g_gT (by intro hb hc; simp only [go_sem, Nat.reduceEqDiff, Nat.reduceAdd, Nat.reduceLeDiff, f0, f5, slcLP, bi, bound_nat (Nat.le_refl l.length), mm, e3, Nat.zero_add, Nat.sub_zero, hb, hc]; first | done | rfl) ?_
    | refine g_gF (by intro hb hc; simp only [go_sem, Nat.reduceEqDiff, Nat.reduceAdd, Nat.reduceLeDiff, f0, f5, slcLP, bi, bound_nat (Nat.le_refl l.length), mm, e3, Nat.zero_add, Nat.sub_zero, hb, hc]; first | done | rfl) ?_
    | refine g_skT ?_
    | refine g_skF ?_
    | refine g_goT (by simp only [go_sem, Nat.reduceEqDiff, Nat.reduceAdd, Nat.reduceLeDiff, f0, f5, slcLP, bi, bound_nat (Nat.le_refl l.length), mm, e3, Nat.zero_add, Nat.sub_zero]; first | done | rfl) ?_
    | refine g_goF (by simp only [go_sem, Nat.reduceEqDiff, Nat.reduceAdd, Nat.reduceLeDiff, f0, f5, slcLP, bi, bound_nat (Nat.le_refl l.length), mm, e3, Nat.zero_add, Nat.sub_zero]; first | done | rfl) ?_
    )
        (repeat' first
    | refine w_seq ?_
    | refine w_rg ?_
    | refine wo_nil ?_
    | refine s_plain (by simp only [go_sem, Nat.reduceEqDiff, Nat.reduceAdd, Nat.reduceLeDiff]; first | done | rfl) ?_
    | refine s_void (by simp only [go_sem, Nat.reduceEqDiff, Nat.reduceAdd, Nat.reduceLeDiff]; first | done | rfl) ?_
    | refine s_guard (by simp only [go_sem, Nat.reduceEqDiff, Nat.reduceAdd, Nat.reduceLeDiff]; first | done | rfl) ?_
    | refine g_skU ?_
    | refine g_T (by intro hb; simp only [go_sem, Nat.reduceEqDiff, Nat.reduceAdd, Nat.reduceLeDiff, hb]; first | done | rfl) ?_
    | refine g_F (by intro hb; simp only [go_sem, Nat.reduceEqDiff, Nat.reduceAdd, Nat.reduceLeDiff, hb]; first | done | rfl) ?_
    | refine g_gT (by intro hb hc; simp only [go_sem, Nat.reduceEqDiff, Nat.reduceAdd, Nat.reduceLeDiff, hb, hc]; first | done | rfl) ?_
    | refine g_gF (by intro hb hc; simp only [go_sem, Nat.reduceEqDiff, Nat.reduceAdd, Nat.reduceLeDiff, hb, hc]; first | done | rfl) ?_
    | refine g_skT ?_
    | refine g_skF ?_
    | refine g_goT (by simp only [go_sem, Nat.reduceEqDiff, Nat.reduceAdd, Nat.reduceLeDiff]; first | done | rfl) ?_
    | refine g_goF (by simp only [go_sem, Nat.reduceEqDiff, Nat.reduceAdd, Nat.reduceLeDiff]; first | done | rfl) ?_
    | refine w_condT (by simp only [go_sem, Nat.reduceEqDiff, Nat.reduceAdd, Nat.reduceLeDiff]; first | done | rfl) ?_
    | refine w_condF (by simp only [go_sem, Nat.reduceEqDiff, Nat.reduceAdd, Nat.reduceLeDiff]; first | done | rfl) ?_
    | refine w_skip ?_
    | refine w_exit ?_
    | refine w_ret ?_
    )
        refine ⟨.inr rfl, _, by simp only [go_sem, Nat.reduceEqDiff, Nat.reduceAdd, Nat.reduceLeDiff, retOf, resOf]; first | done | rfl, ?_⟩
        rw [fz_ob]
        simp only [go_sem, Nat.reduceEqDiff, Nat.reduceAdd, Nat.reduceLeDiff]
        have hl2 : (List.take i (labs X) ++ List.replicate (l.length - i) (PV.agg [.sc (.string ⟨#[]⟩), .sc (.string ⟨#[]⟩)]) ++ List.drop (i + (l.length - i)) (labs X)).take i = labs (keepL l ns) := by
          rw [List.append_assoc, List.take_append_of_le_length (by simp; omega), List.take_take, Nat.min_self, ← tk]
          simp [labs]
        have hl3 : i ≤ (List.take i (labs X) ++ List.replicate (l.length - i) (PV.agg [.sc (.string ⟨#[]⟩), .sc (.string ⟨#[]⟩)]) ++ List.drop (i + (l.length - i)) (labs X)).length := by
          simp; omega
        rw [if_pos hl3, hl2, labs_fzd]
        rfl
    · refine ⟨i0, l, ?_, ?_, ?_, ?_, rfl, by omega, ?_, rfl, ?_, ?_, wr, ?_⟩
      · simp only [go_sem, Nat.reduceEqDiff, Nat.reduceAdd, Nat.reduceLeDiff]
      · simp only [go_sem, Nat.reduceEqDiff, Nat.reduceAdd, Nat.reduceLeDiff]
      · simp only [go_sem, Nat.reduceEqDiff, Nat.reduceAdd, Nat.reduceLeDiff]
      · simp only [go_sem, Nat.reduceEqDiff, Nat.reduceAdd, Nat.reduceLeDiff, w1]; first | done | rfl
      · rw [Nat.add_zero, keepL_succ hi0]
        rw [nth_eq hi0] at hpi
        simp only [Bool.not_eq_true'] at hpi
        rw [hpi, if_neg (by decide), List.append_nil, keepL_all fun j hj => ?_]
        rw [List.length_take] at hj
        have := hmin j (by omega)
        simp only [Bool.not_eq_false'] at this
        rw [nth_eq (by omega)] at this
        rw [nth_eq (by rw [List.length_take]; exact hj), List.getElem_take]
        exact this
      · exact hm
      · exact hgc
      · exact hq

theorem a128k (V : Has lq0 env) {l : List Lab} (hn : l.length ≤ 1000000) : ∃ r σ', EV env 128 [.sl (labs l)] σ = some (r, σ') ∧ Gat σ' [7] 2 true r (labs l) ∧ ∀ o g, o ≠ 7 → σ'.m o g = σ.m o g := by
  have h := V (128, .prim (cloneF 2 32)) (by simp [lq0])
  have hall := labs_ok l
  have hb : decide ((labs l).length * 32 ≤ 70368744177664) = true := decide_eq_true (by rw [labs_len]; omega)
  cases hl : labs l with
  | nil =>
    exact ⟨.em, σ, EV_of (n := 1) (by simp only [evF, h]; rfl), .em, fun _ _ _ => rfl⟩
  | cons x r =>
    refine ⟨.ob 7 (σ.c 7) 2 0 (labs l).length, σ.new 7 ⟨2, labs l, true, true⟩, EV_of (n := 1) ?_, .inr ⟨7, σ.c 7, true, by simp, by rw [hl], by rw [← hl]; simp [new_m], by simp [new_c], by simp, fun _ => rfl⟩, fun o g ho => by simp [new_m, ho]⟩
    rw [← hl]
    have he : (labs l).isEmpty = false := by rw [hl]; rfl
    simp only [evF, h, cloneF, hall, hb, he, Bool.and_self, if_true, Bool.false_eq_true, if_false]

def keptL (l : List Lab) (ns : List ByteArray) : List Lab × Int := if rightL l then (keepL l ns, 0) else ([], 1)

theorem a244 (H : Has la0 env) (G : Has lc env) (V : Has lq0 env) (X : Has lx env) (Y : Has ly env) {l : List Lab} (hn : l.length ≤ 9223372036854775807) (hl : Smalls l) {ns : List ByteArray} (hs : ns.length ≤ 9223372036854775807) :
    AV env 244 [.sl (labs l), .sl (strs ns)] = some (.tu [.sl (labs (keptL l ns).1), .sc (.int .i64 (keptL l ns).2)]) := by
  have h1 := a113 H G hn hl
  refine AV_wp (Y (244, d244) (by simp [ly])) rfl ?_
  (repeat' first
    | refine w_seq ?_
    | refine w_rg ?_
    | refine wo_nil ?_
    | refine s_plain (by simp only [go_sem, Nat.reduceEqDiff, Nat.reduceAdd, Nat.reduceLeDiff, h1]; first | done | rfl) ?_
    | refine s_void (by simp only [go_sem, Nat.reduceEqDiff, Nat.reduceAdd, Nat.reduceLeDiff, h1]; first | done | rfl) ?_
    | refine s_guard (by simp only [go_sem, Nat.reduceEqDiff, Nat.reduceAdd, Nat.reduceLeDiff, h1]; first | done | rfl) ?_
    | refine g_skU ?_
    | refine g_T (by intro hb; simp only [go_sem, Nat.reduceEqDiff, Nat.reduceAdd, Nat.reduceLeDiff, h1, hb]; first | done | rfl) ?_
    | refine g_F (by intro hb; simp only [go_sem, Nat.reduceEqDiff, Nat.reduceAdd, Nat.reduceLeDiff, h1, hb]; first | done | rfl) ?_
    | refine g_gT (by intro hb hc; simp only [go_sem, Nat.reduceEqDiff, Nat.reduceAdd, Nat.reduceLeDiff, h1, hb, hc]; first | done | rfl) ?_
    | refine g_gF (by intro hb hc; simp only [go_sem, Nat.reduceEqDiff, Nat.reduceAdd, Nat.reduceLeDiff, h1, hb, hc]; first | done | rfl) ?_
    | refine g_skT ?_
    | refine g_skF ?_
    | refine g_goT (by simp only [go_sem, Nat.reduceEqDiff, Nat.reduceAdd, Nat.reduceLeDiff, h1]; first | done | rfl) ?_
    | refine g_goF (by simp only [go_sem, Nat.reduceEqDiff, Nat.reduceAdd, Nat.reduceLeDiff, h1]; first | done | rfl) ?_
    )
  cases hr : rightL l with
  | false =>
    (repeat' first
    | refine w_seq ?_
    | refine w_rg ?_
    | refine wo_nil ?_
    | refine s_plain (by simp only [go_sem, Nat.reduceEqDiff, Nat.reduceAdd, Nat.reduceLeDiff]; first | done | rfl) ?_
    | refine s_void (by simp only [go_sem, Nat.reduceEqDiff, Nat.reduceAdd, Nat.reduceLeDiff]; first | done | rfl) ?_
    | refine s_guard (by simp only [go_sem, Nat.reduceEqDiff, Nat.reduceAdd, Nat.reduceLeDiff]; first | done | rfl) ?_
    | refine g_skU ?_
    | refine g_T (by intro hb; simp only [go_sem, Nat.reduceEqDiff, Nat.reduceAdd, Nat.reduceLeDiff, hb]; first | done | rfl) ?_
    | refine g_F (by intro hb; simp only [go_sem, Nat.reduceEqDiff, Nat.reduceAdd, Nat.reduceLeDiff, hb]; first | done | rfl) ?_
    | refine g_gT (by intro hb hc; simp only [go_sem, Nat.reduceEqDiff, Nat.reduceAdd, Nat.reduceLeDiff, hb, hc]; first | done | rfl) ?_
    | refine g_gF (by intro hb hc; simp only [go_sem, Nat.reduceEqDiff, Nat.reduceAdd, Nat.reduceLeDiff, hb, hc]; first | done | rfl) ?_
    | refine g_skT ?_
    | refine g_skF ?_
    | refine g_goT (by simp only [go_sem, Nat.reduceEqDiff, Nat.reduceAdd, Nat.reduceLeDiff]; first | done | rfl) ?_
    | refine g_goF (by simp only [go_sem, Nat.reduceEqDiff, Nat.reduceAdd, Nat.reduceLeDiff]; first | done | rfl) ?_
    | refine w_condT (by simp only [go_sem, Nat.reduceEqDiff, Nat.reduceAdd, Nat.reduceLeDiff]; first | done | rfl) ?_
    | refine w_condF (by simp only [go_sem, Nat.reduceEqDiff, Nat.reduceAdd, Nat.reduceLeDiff]; first | done | rfl) ?_
    | refine w_skip ?_
    | refine w_exit ?_
    | refine w_ret ?_
    )
    exact ⟨.inr rfl, by simp only [go_sem, Nat.reduceEqDiff, Nat.reduceAdd, Nat.reduceLeDiff, retOf, resOf]; simp only [keptL, hr]; first | done | rfl⟩
  | true =>
    have k1 := right_len hr
    obtain ⟨r, σ1, h128, hg, hk⟩ := a128k (σ := St.nil.new 3 ⟨1, [.sl (strs ns)], true, true⟩) V (l := l) (by omega)
    have hm : σ1.m 3 0 = some ⟨1, [.sl (strs ns)], true, true⟩ := by rw [hk 3 0 (by decide)]; rfl
    obtain ⟨r2, σ2, h246, hz⟩ := a246 G X (by omega) hs Y hg hm
    (repeat' first
    | refine w_seq ?_
    | refine w_rg ?_
    | refine wo_nil ?_
    | refine s_plain (by simp only [go_sem, Nat.reduceEqDiff, Nat.reduceAdd, Nat.reduceLeDiff, h128]; first | done | rfl) ?_
    | refine s_void (by simp only [go_sem, Nat.reduceEqDiff, Nat.reduceAdd, Nat.reduceLeDiff, h128]; first | done | rfl) ?_
    | refine s_guard (by simp only [go_sem, Nat.reduceEqDiff, Nat.reduceAdd, Nat.reduceLeDiff, h128]; first | done | rfl) ?_
    | refine g_skU ?_
    | refine g_T (by intro hb; simp only [go_sem, Nat.reduceEqDiff, Nat.reduceAdd, Nat.reduceLeDiff, h128, hb]; first | done | rfl) ?_
    | refine g_F (by intro hb; simp only [go_sem, Nat.reduceEqDiff, Nat.reduceAdd, Nat.reduceLeDiff, h128, hb]; first | done | rfl) ?_
    | refine g_gT (by intro hb hc; simp only [go_sem, Nat.reduceEqDiff, Nat.reduceAdd, Nat.reduceLeDiff, h128, hb, hc]; first | done | rfl) ?_
    | refine g_gF (by intro hb hc; simp only [go_sem, Nat.reduceEqDiff, Nat.reduceAdd, Nat.reduceLeDiff, h128, hb, hc]; first | done | rfl) ?_
    | refine g_skT ?_
    | refine g_skF ?_
    | refine g_goT (by simp only [go_sem, Nat.reduceEqDiff, Nat.reduceAdd, Nat.reduceLeDiff, h128]; first | done | rfl) ?_
    | refine g_goF (by simp only [go_sem, Nat.reduceEqDiff, Nat.reduceAdd, Nat.reduceLeDiff, h128]; first | done | rfl) ?_
    | refine w_condT (by simp only [go_sem, Nat.reduceEqDiff, Nat.reduceAdd, Nat.reduceLeDiff, h128]; first | done | rfl) ?_
    | refine w_condF (by simp only [go_sem, Nat.reduceEqDiff, Nat.reduceAdd, Nat.reduceLeDiff, h128]; first | done | rfl) ?_
    | refine w_skip ?_
    | refine w_exit ?_
    | refine w_ret ?_
    )
    (repeat' first
    | refine w_seq ?_
    | refine w_rg ?_
    | refine wo_nil ?_
    | refine s_plain (by simp only [go_sem, Nat.reduceEqDiff, Nat.reduceAdd, Nat.reduceLeDiff, h246]; first | done | rfl) ?_
    | refine s_void (by simp only [go_sem, Nat.reduceEqDiff, Nat.reduceAdd, Nat.reduceLeDiff, h246]; first | done | rfl) ?_
    | refine s_guard (by simp only [go_sem, Nat.reduceEqDiff, Nat.reduceAdd, Nat.reduceLeDiff, h246]; first | done | rfl) ?_
    | refine g_skU ?_
    | refine g_T (by intro hb; simp only [go_sem, Nat.reduceEqDiff, Nat.reduceAdd, Nat.reduceLeDiff, h246, hb]; first | done | rfl) ?_
    | refine g_F (by intro hb; simp only [go_sem, Nat.reduceEqDiff, Nat.reduceAdd, Nat.reduceLeDiff, h246, hb]; first | done | rfl) ?_
    | refine g_gT (by intro hb hc; simp only [go_sem, Nat.reduceEqDiff, Nat.reduceAdd, Nat.reduceLeDiff, h246, hb, hc]; first | done | rfl) ?_
    | refine g_gF (by intro hb hc; simp only [go_sem, Nat.reduceEqDiff, Nat.reduceAdd, Nat.reduceLeDiff, h246, hb, hc]; first | done | rfl) ?_
    | refine g_skT ?_
    | refine g_skF ?_
    | refine g_goT (by simp only [go_sem, Nat.reduceEqDiff, Nat.reduceAdd, Nat.reduceLeDiff, h246]; first | done | rfl) ?_
    | refine g_goF (by simp only [go_sem, Nat.reduceEqDiff, Nat.reduceAdd, Nat.reduceLeDiff, h246]; first | done | rfl) ?_
    | refine w_condT (by simp only [go_sem, Nat.reduceEqDiff, Nat.reduceAdd, Nat.reduceLeDiff, h246]; first | done | rfl) ?_
    | refine w_condF (by simp only [go_sem, Nat.reduceEqDiff, Nat.reduceAdd, Nat.reduceLeDiff, h246]; first | done | rfl) ?_
    | refine w_skip ?_
    | refine w_exit ?_
    | refine w_ret ?_
    )
    exact ⟨.inr rfl, by simp only [go_sem, Nat.reduceEqDiff, Nat.reduceAdd, Nat.reduceLeDiff, retOf, resOf, fz_tu, hz]; simp only [keptL, hr, if_true]; first | done | rfl⟩

end
end Go.Proofs.YtjijlmfhnkipmaaDoorPv
