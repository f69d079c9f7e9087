/-
Own texts of the proof, merged: part 3.
-/
import Derived.Test.YtjijlmfhnkipmaaDoorPkLabelTurnsB
namespace Go.Proofs.YtjijlmfhnkipmaaDoorPv
open Go
set_option linter.unusedSimpArgs false
set_option linter.unusedVariables false
set_option maxHeartbeats 4000000
attribute [local go_sem ↓] e_mv e_pick e_bin e_eqs e_beq e_un e_cvi e_str e_s2b e_b2s e_box e_build e_bsl e_ld e_st e_nck e_mkf e_slcS e_slcL e_fa e_fld e_ia e_iaa e_ix e_ixa e_ext e_lenS e_lenL e_mnmx e_app e_appb e_bbx e_msl e_clr e_call e_callv pa_t pa_c pa_f slcSP_str hiOf_some hiOf_none loOf_some loOf_none set_eq set_ne
attribute [local go_sem] pv pv1 simple frOf_0 frOf_1 frOf_2 frOf_3 frOf_4 frOf_5 ne_eq not_false_eq_true if_true Bool.false_eq_true if_false pbin punary Option.map_some Option.bind_some pick_and pick_or opt_true Bool.true_and Bool.and_self Bool.and_true Bool.true_or Bool.false_or Bool.not_true Bool.not_false callE pcall_eq List.map_cons List.map_nil List.append_nil List.nil_append List.cons_append mapM_cons' mapM_nil' dep_eq fz_sc fz_sl fz_em fz_fn fz_fp fz_agg fz_bx fz_ob Nat.lt_irrefl Nat.zero_lt_one Nat.lt_add_one flat clL cl Bool.or_true okc cells_agg cells_sc cells_sl cells_em cells_ob cells_fn cells_bx cells_fp List.length_cons List.length_nil Nat.zero_add and_self true_and and_true new_m new_c put_m put_c nil_m nil_c deref List.getElem?_cons_zero List.getElem?_cons_succ List.drop_zero List.drop_succ_cons List.take_succ_cons List.take_zero Nat.le_refl false_and and_false
set_option maxRecDepth 8000
section
variable {env : Nat → Option Def} {fr : Fr} {σ σ' : St} {K : Fr → St → Prop} {Q : X → Fr → St → Prop}
def bp (l : List UInt8) : List PV := l.map fun b => .sc (.int .u8 b.toNat)
theorem bp_app (a b : List UInt8) : bp (a ++ b) = bp a ++ bp b := by simp [bp]
theorem bp_len (a : List UInt8) : (bp a).length = a.length := by simp [bp]
theorem bp_bytes (s : ByteArray) : bytesPV s = bp s.data.toList := rfl
theorem bp_ok (l : List UInt8) : ((bp l).all fun y => okc y && (cellsOf y).length == 1) = true := by
  rw [List.all_eq_true]
  intro x hx
  simp only [bp, List.mem_map] at hx
  obtain ⟨m, _, rfl⟩ := hx
  rfl
theorem bp_back (l : List UInt8) : (bp l).mapM byteOf = some l := by
  induction l with
  | nil => rfl
  | cons b r ih =>
    show List.mapM byteOf (.sc (.int .u8 b.toNat) :: bp r) = _
    rw [mapM_cons', ih]
    simp [byteOf]
theorem gat_elems {os : List Nat} {es : Nat} {w : Bool} {p : PV} {xs : List PV} (hg : Gat σ os es w p xs) : elemsOf σ p = some xs := by
  rcases hg with ⟨rfl, rfl⟩ | ⟨o, g, wr, h0, rfl, h2, h3, h4, h5⟩
  · rfl
  · simp [elemsOf, h2]
theorem join_snoc (sep x : List UInt8) : ∀ xs : List (List UInt8), Lib.join (xs ++ [x]) sep = if xs = [] then x else Lib.join xs sep ++ sep ++ x
  | [] => by simp [Lib.join_one]
  | y :: r => by
    rw [List.cons_append, Lib.join_cons, Lib.join_cons]
    simp [Lib.joinTail]
/-- The text as far as the first i labels. -/
def preT (l : List Lab) (i : Nat) : List UInt8 := 123 :: Lib.join ((l.take i).map fun m => (markS m).data.toList) [44]
theorem mark_bytes (m : Lab) : (markS m).data.toList = m.1.data.toList ++ [61, 34] ++ esc m.2.data.toList ++ [34] := by
  simp [markS, escS, ByteArray.data_append]
theorem preT_succ {l : List Lab} {i : Nat} (hi : i < l.length) : preT l (i + 1) = preT l i ++ (if (i : Int) > 0 then [44] else []) ++ l[i].1.data.toList ++ [61, 34] ++ esc l[i].2.data.toList ++ [34] := by
  unfold preT
  rw [List.take_succ_eq_append_getElem hi, List.map_append, List.map_cons, List.map_nil, join_snoc, mark_bytes]
  cases i with
  | zero => simp [Lib.join]
  | succ i =>
    have hne : (l.take (i + 1)).map (fun m => (markS m).data.toList) ≠ [] := by
      intro h
      have h2 := congrArg List.length h
      simp only [List.length_map, List.length_take, List.length_nil] at h2
      omega
    rw [if_neg hne, if_pos (by omega)]
    simp
theorem preT_len {l : List Lab} (hsz : ∀ m ∈ l, m.1.size ≤ 64 ∧ m.2.size ≤ 64) (h8 : l.length ≤ 8) (i : Nat) : (preT l i).length ≤ 1700 := by
  have hj := join_len [44] ((l.take i).map fun m => (markS m).data.toList) (fun x hx => by
    obtain ⟨m, hm, rfl⟩ := List.mem_map.1 hx
    exact mark_size (hsz m (List.mem_of_mem_take hm)).1 (hsz m (List.mem_of_mem_take hm)).2) (by simp)
  rw [List.length_map, List.length_take] at hj
  simp only [preT, List.length_cons]
  omega
theorem esc_succ {v : List UInt8} {k : Nat} {u : UInt8} (hu : v[k]? = some u) : esc (v.take (k + 1)) = esc (v.take k) ++ (if u = 34 ∨ u = 92 then [92] else []) ++ [u] := by
  obtain ⟨hk, rfl⟩ := List.getElem?_eq_some_iff.1 hu
  rw [List.take_succ_eq_append_getElem hk]
  unfold esc
  rw [List.flatMap_append]
  simp only [List.flatMap_cons, List.flatMap_nil, List.append_nil, List.append_assoc]
  congr 1
  split <;> rfl
def OS : List Nat := [7, 19, 24, 27, 49, 56, 59]
/-- What stands while a label is written. -/
structure Wr (l : List Lab) (i : Nat) (m : Lab) (out : List UInt8) (fr : Fr) (σ : St) : Prop where
  f8 : fr 8 = .sl (labs l)
  f9 : fr 9 = .sc (.int .i64 l.length)
  f10 : fr 10 = .sc (.int .i64 i)
  f4 : fr 4 = .sc (.int .i64 i)
  f5 : ∃ g, fr 5 = .bx 5 g 2 0 0 ∧ σ.m 5 g = some ⟨2, [.agg [.sc (.string m.1), .sc (.string m.2)]], true, true⟩ ∧ g < σ.c 5
  g3 : Gat σ OS 1 false (fr 3) (bp out)
theorem Gat.one {d es : Nat} {w : Bool} {p : PV} {xs : List PV} {os : List Nat} (h : Gat σ [d] es w p xs) (hd : d ∈ os) : Gat σ os es false p xs := h.mono (by intro o ho; simp at ho; subst ho; exact hd)
theorem keep5 {os : List Nat} {g : Nat} {x : Obj} (hk : Keeps σ σ' os) (h5 : 5 ∉ os) (hm : σ.m 5 g = some x) (hg : g < σ.c 5) : σ'.m 5 g = some x ∧ g < σ'.c 5 :=
  ⟨by rw [hk.m 5 g h5 hg]; exact hm, Nat.lt_of_lt_of_le hg (hk.c 5)⟩
theorem new5 {d g : Nat} {x y : Obj} (hd : d ≠ 5) (hm : σ.m 5 g = some x) (hg : g < σ.c 5) : (σ.new d y).m 5 g = some x ∧ g < (σ.new d y).c 5 :=
  ⟨by simp only [new_m]; rw [if_neg (fun h => hd h.1.symm)]; exact hm, by simp only [new_c]; rw [if_neg (Ne.symm hd)]; exact hg⟩
theorem a211 (U : Has lu env) {l : List Lab} (hsz : ∀ m ∈ l, m.1.size ≤ 64 ∧ m.2.size ≤ 64) (h8 : l.length ≤ 8) : AV env 211 [.sl (labs l)] = some (.sc (.string (textS l))) := by
  have hll := labs_len l
  have hpl := preT_len hsz h8
  refine AV_wp (U (211, d211) (by simp [lu])) rfl ?_
  (repeat' first
    | refine w_seq ?_ | refine w_rg ?_ | refine wo_nil ?_ | refine g_skU ?_
    | ((first | apply s_plain | apply s_void | apply s_guard); · simp only [go_sem, Nat.reduceEqDiff, Nat.reduceAdd, Nat.reduceLeDiff, hll, fillE, List.replicate_succ, List.replicate_zero, List.set_cons_zero]; (first | done | rfl))
    | ((first | apply g_T | apply g_F); · intro hb; simp only [go_sem, Nat.reduceEqDiff, Nat.reduceAdd, Nat.reduceLeDiff, hll, fillE, List.replicate_succ, List.replicate_zero, List.set_cons_zero, hb]; (first | done | rfl))
    | ((first | apply g_gT | apply g_gF); · intro hb hc; simp only [go_sem, Nat.reduceEqDiff, Nat.reduceAdd, Nat.reduceLeDiff, hll, fillE, List.replicate_succ, List.replicate_zero, List.set_cons_zero, hb, hc]; (first | done | rfl))
    | refine g_skT ?_ | refine g_skF ?_
    | ((first | apply g_goT | apply g_goF); · simp only [go_sem, Nat.reduceEqDiff, Nat.reduceAdd, Nat.reduceLeDiff, hll, fillE, List.replicate_succ, List.replicate_zero, List.set_cons_zero]; (first | done | rfl))
    )
  refine w_block (w_range l.length (by omega) (fun i fr σ => fr 8 = .sl (labs l) ∧ Gat σ OS 1 false (fr 3) (bp (preT l i))) (by decide) ?_ ?_ ?_ _ _ ?_ ?_ ?_)
  · rintro i fr σ v ⟨h0, h1⟩
    refine ⟨⟨?_, ?_⟩, ⟨?_, ?_⟩, ⟨?_, ?_⟩⟩ <;> simp only [go_sem, Nat.reduceEqDiff, Nat.reduceAdd, Nat.reduceLeDiff, h0, h1]
  · rintro i fr σ hi ⟨f8, hg⟩ hti htn
    have hy := labs_at (List.getElem?_eq_getElem hi)
    have e1 : (0 : Int) ≤ (i : Int) ∧ (i : Int) < (l.length : Int) := by omega
    have hz := hsz _ (List.getElem_mem hi)
    have hsuc := preT_succ hi
    generalize hm : l[i] = m at hy hz hsuc
    refine w_block ?_
    simp only [lab] at hy
    (repeat' first
    | refine w_seq ?_ | refine w_rg ?_ | refine wo_nil ?_ | refine g_skU ?_
    | ((first | apply s_plain | apply s_void | apply s_guard); · simp only [go_sem, Nat.reduceEqDiff, Nat.reduceAdd, Nat.reduceLeDiff, f8, hti, e1, hll, Int.toNat_natCast, hy, List.modify_zero_cons]; (first | done | rfl))
    | ((first | apply g_T | apply g_F); · intro hb; simp only [go_sem, Nat.reduceEqDiff, Nat.reduceAdd, Nat.reduceLeDiff, f8, hti, e1, hll, Int.toNat_natCast, hy, List.modify_zero_cons, hb]; (first | done | rfl))
    | ((first | apply g_gT | apply g_gF); · intro hb hc; simp only [go_sem, Nat.reduceEqDiff, Nat.reduceAdd, Nat.reduceLeDiff, f8, hti, e1, hll, Int.toNat_natCast, hy, List.modify_zero_cons, hb, hc]; (first | done | rfl))
    | refine g_skT ?_ | refine g_skF ?_
    | ((first | apply g_goT | apply g_goF); · simp only [go_sem, Nat.reduceEqDiff, Nat.reduceAdd, Nat.reduceLeDiff, f8, hti, e1, hll, Int.toNat_natCast, hy, List.modify_zero_cons]; (first | done | rfl))
    )
    refine w_gen (J := fun fr τ => Wr l i m (preT l i) fr τ ∧ fr 16 = .sc (.bool (decide ((i : Int) > 0)))) ⟨⟨by simp only [go_sem, Nat.reduceEqDiff, Nat.reduceAdd, Nat.reduceLeDiff, f8], by simp only [go_sem, Nat.reduceEqDiff, Nat.reduceAdd, Nat.reduceLeDiff, htn], by simp only [go_sem, Nat.reduceEqDiff, Nat.reduceAdd, Nat.reduceLeDiff, hti], by simp only [go_sem, Nat.reduceEqDiff, Nat.reduceAdd, Nat.reduceLeDiff, hti], ⟨σ.c 5, by simp only [go_sem, Nat.reduceEqDiff, Nat.reduceAdd, Nat.reduceLeDiff], by simp only [go_sem, Nat.reduceEqDiff, Nat.reduceAdd, Nat.reduceLeDiff], by simp only [go_sem, Nat.reduceEqDiff, Nat.reduceAdd, Nat.reduceLeDiff]; first | done | omega⟩, by simp only [go_sem, Nat.reduceEqDiff, Nat.reduceAdd, Nat.reduceLeDiff]; exact (hg.new _).put (d := 5) (by decide) _⟩, by simp only [go_sem, Nat.reduceEqDiff, Nat.reduceAdd, Nat.reduceLeDiff]⟩ ?_
    clear hg f8 hti htn fr σ
    rintro fr σ ⟨hW, h16⟩
    refine Wp.mono (Q := fun x fr τ => x = .normal ∧ Wr l i m (preT l i ++ (if (i : Int) > 0 then [44] else [])) fr τ) ?_ ?_
    · by_cases hi0 : (i : Int) > 0
      · obtain ⟨w8, w9, w10, w4, ⟨g5, w5, wm, wc⟩, wg⟩ := hW
        refine w_condT (by simp only [go_sem, Nat.reduceEqDiff, Nat.reduceAdd, Nat.reduceLeDiff, h16, hi0, decide_true]) ?_
        (repeat' first
    | refine w_seq ?_ | refine w_rg ?_ | refine wo_nil ?_ | refine g_skU ?_
    | ((first | apply s_plain | apply s_void | apply s_guard); · simp only [go_sem, Nat.reduceEqDiff, Nat.reduceAdd, Nat.reduceLeDiff, fillE, List.replicate_succ, List.replicate_zero, List.set_cons_zero, List.set_cons_succ]; (first | done | rfl))
    | ((first | apply g_T | apply g_F); · intro hb; simp only [go_sem, Nat.reduceEqDiff, Nat.reduceAdd, Nat.reduceLeDiff, fillE, List.replicate_succ, List.replicate_zero, List.set_cons_zero, List.set_cons_succ, hb]; (first | done | rfl))
    | ((first | apply g_gT | apply g_gF); · intro hb hc; simp only [go_sem, Nat.reduceEqDiff, Nat.reduceAdd, Nat.reduceLeDiff, fillE, List.replicate_succ, List.replicate_zero, List.set_cons_zero, List.set_cons_succ, hb, hc]; (first | done | rfl))
    | refine g_skT ?_ | refine g_skF ?_
    | ((first | apply g_goT | apply g_goF); · simp only [go_sem, Nat.reduceEqDiff, Nat.reduceAdd, Nat.reduceLeDiff, fillE, List.replicate_succ, List.replicate_zero, List.set_cons_zero, List.set_cons_succ]; (first | done | rfl))
    )
        refine s_gatL (os := OS) (ys := [.sc (.int .u8 44)]) (by simp only [go_sem, Nat.reduceEqDiff, Nat.reduceAdd, Nat.reduceLeDiff]; exact wg.new _) (by simp only [go_sem, Nat.reduceEqDiff, Nat.reduceAdd, Nat.reduceLeDiff, srcOf, elemsOf]) rfl (by rw [bp_len]; have := hpl i; simp only [List.length_cons, List.length_nil]; omega) ?_
        intro p τ hg2 kp
        have k6 := keep5 kp (by decide) (new5 (by decide) wm wc).1 (new5 (by decide) wm wc).2
        (repeat' first
    | refine w_seq ?_ | refine w_rg ?_ | refine wo_nil ?_ | refine g_skU ?_
    | ((first | apply s_plain | apply s_void | apply s_guard); · simp only [go_sem, Nat.reduceEqDiff, Nat.reduceAdd, Nat.reduceLeDiff]; (first | done | rfl))
    | ((first | apply g_T | apply g_F); · intro hb; simp only [go_sem, Nat.reduceEqDiff, Nat.reduceAdd, Nat.reduceLeDiff, hb]; (first | done | rfl))
    | ((first | apply g_gT | apply g_gF); · intro hb hc; simp only [go_sem, Nat.reduceEqDiff, Nat.reduceAdd, Nat.reduceLeDiff, hb, hc]; (first | done | rfl))
    | refine g_skT ?_ | refine g_skF ?_
    | ((first | apply g_goT | apply g_goF); · simp only [go_sem, Nat.reduceEqDiff, Nat.reduceAdd, Nat.reduceLeDiff]; (first | done | rfl))
    )
        refine ⟨rfl, ⟨?_, ?_, ?_, ?_, ⟨g5, ?_, k6.1, k6.2⟩, ?_⟩⟩
        · simp only [go_sem, Nat.reduceEqDiff, Nat.reduceAdd, Nat.reduceLeDiff, w8]
        · simp only [go_sem, Nat.reduceEqDiff, Nat.reduceAdd, Nat.reduceLeDiff, w9]
        · simp only [go_sem, Nat.reduceEqDiff, Nat.reduceAdd, Nat.reduceLeDiff, w10]
        · simp only [go_sem, Nat.reduceEqDiff, Nat.reduceAdd, Nat.reduceLeDiff, w4]
        · simp only [go_sem, Nat.reduceEqDiff, Nat.reduceAdd, Nat.reduceLeDiff, w5]
        · simp only [go_sem, Nat.reduceEqDiff, Nat.reduceAdd, Nat.reduceLeDiff]
          rw [if_pos hi0, bp_app]
          exact hg2.one (by decide)
      · refine w_condF (by simp only [go_sem, Nat.reduceEqDiff, Nat.reduceAdd, Nat.reduceLeDiff, h16, hi0, decide_false]) (w_skip ⟨rfl, ?_⟩)
        rw [if_neg hi0, List.append_nil]
        exact hW
    · rintro x fr τ ⟨rfl, w8, w9, w10, w4, ⟨g5, w5, wm, wc⟩, wg⟩
      have hcl : (if (i : Int) > 0 then ([44] : List UInt8) else []).length ≤ 1 := by split <;> simp
      have hp0 := hpl i
      generalize (if (i : Int) > 0 then ([44] : List UInt8) else []) = cm at wg hcl hsuc
      have hb1 : (bytesPV m.1).length = m.1.size := bytes_len _
      (repeat' first
    | refine w_seq ?_ | refine w_rg ?_ | refine wo_nil ?_ | refine g_skU ?_
    | ((first | apply s_plain | apply s_void | apply s_guard); · simp only [go_sem, Nat.reduceEqDiff, Nat.reduceAdd, Nat.reduceLeDiff, w5, wm]; (first | done | rfl))
    | ((first | apply g_T | apply g_F); · intro hb; simp only [go_sem, Nat.reduceEqDiff, Nat.reduceAdd, Nat.reduceLeDiff, w5, wm, hb]; (first | done | rfl))
    | ((first | apply g_gT | apply g_gF); · intro hb hc; simp only [go_sem, Nat.reduceEqDiff, Nat.reduceAdd, Nat.reduceLeDiff, w5, wm, hb, hc]; (first | done | rfl))
    | refine g_skT ?_ | refine g_skF ?_
    | ((first | apply g_goT | apply g_goF); · simp only [go_sem, Nat.reduceEqDiff, Nat.reduceAdd, Nat.reduceLeDiff, w5, wm]; (first | done | rfl))
    )
      refine s_gatL (os := OS) (ys := bytesPV m.1) (by simp only [go_sem, Nat.reduceEqDiff, Nat.reduceAdd, Nat.reduceLeDiff]; exact wg) (by simp only [go_sem, Nat.reduceEqDiff, Nat.reduceAdd, Nat.reduceLeDiff, srcOf, elemsOf]) (bp_ok _) (by rw [bp_len, hb1, List.length_append]; omega) ?_
      intro p1 τ1 q1 k1
      have m1 := keep5 k1 (by decide) wm wc
      rw [bp_bytes, ← bp_app] at q1
      (repeat' first
    | refine w_seq ?_ | refine w_rg ?_ | refine wo_nil ?_ | refine g_skU ?_
    | ((first | apply s_plain | apply s_void | apply s_guard); · simp only [go_sem, Nat.reduceEqDiff, Nat.reduceAdd, Nat.reduceLeDiff, fillE, List.replicate_succ, List.replicate_zero, List.set_cons_zero, List.set_cons_succ]; (first | done | rfl))
    | ((first | apply g_T | apply g_F); · intro hb; simp only [go_sem, Nat.reduceEqDiff, Nat.reduceAdd, Nat.reduceLeDiff, fillE, List.replicate_succ, List.replicate_zero, List.set_cons_zero, List.set_cons_succ, hb]; (first | done | rfl))
    | ((first | apply g_gT | apply g_gF); · intro hb hc; simp only [go_sem, Nat.reduceEqDiff, Nat.reduceAdd, Nat.reduceLeDiff, fillE, List.replicate_succ, List.replicate_zero, List.set_cons_zero, List.set_cons_succ, hb, hc]; (first | done | rfl))
    | refine g_skT ?_ | refine g_skF ?_
    | ((first | apply g_goT | apply g_goF); · simp only [go_sem, Nat.reduceEqDiff, Nat.reduceAdd, Nat.reduceLeDiff, fillE, List.replicate_succ, List.replicate_zero, List.set_cons_zero, List.set_cons_succ]; (first | done | rfl))
    )
      refine s_gatL (os := [24]) (ys := [.sc (.int .u8 61), .sc (.int .u8 34)]) (by simp only [go_sem, Nat.reduceEqDiff, Nat.reduceAdd, Nat.reduceLeDiff]; exact q1.new _) (by simp only [go_sem, Nat.reduceEqDiff, Nat.reduceAdd, Nat.reduceLeDiff, srcOf, elemsOf]) rfl (by rw [bp_len]; simp only [List.length_append, List.length_cons, List.length_nil, Array.length_toList]; have : m.1.data.size = m.1.size := rfl; omega) ?_
      intro p2 τ2 q2 k2
      have m2 := keep5 k2 (by decide) (new5 (by decide) m1.1 m1.2).1 (new5 (by decide) m1.1 m1.2).2
      have q2' : Gat τ2 OS 1 false p2 (bp (preT l i ++ cm ++ m.1.data.toList ++ [61, 34])) := by
        rw [bp_app]; exact q2.one (by decide)
      have ho1 : (preT l i ++ cm ++ m.1.data.toList ++ [61, 34]).length ≤ 1800 := by
        simp only [List.length_append, List.length_cons, List.length_nil, Array.length_toList]
        have : m.1.data.size = m.1.size := rfl
        omega
      have hsuc' : preT l (i + 1) = (preT l i ++ cm ++ m.1.data.toList ++ [61, 34]) ++ esc m.2.data.toList ++ [34] := by rw [hsuc]
      generalize preT l i ++ cm ++ m.1.data.toList ++ [61, 34] = out1 at q2' ho1 hsuc'
      (repeat' first
    | refine w_seq ?_ | refine w_rg ?_ | refine wo_nil ?_ | refine g_skU ?_
    | ((first | apply s_plain | apply s_void | apply s_guard); · simp only [go_sem, Nat.reduceEqDiff, Nat.reduceAdd, Nat.reduceLeDiff]; (first | done | rfl))
    | ((first | apply g_T | apply g_F); · intro hb; simp only [go_sem, Nat.reduceEqDiff, Nat.reduceAdd, Nat.reduceLeDiff, hb]; (first | done | rfl))
    | ((first | apply g_gT | apply g_gF); · intro hb hc; simp only [go_sem, Nat.reduceEqDiff, Nat.reduceAdd, Nat.reduceLeDiff, hb, hc]; (first | done | rfl))
    | refine g_skT ?_ | refine g_skF ?_
    | ((first | apply g_goT | apply g_goF); · simp only [go_sem, Nat.reduceEqDiff, Nat.reduceAdd, Nat.reduceLeDiff]; (first | done | rfl))
    )
      refine w_block (w_count m.2.size (fun k fr τ => Wr l i m (out1 ++ esc (m.2.data.toList.take k)) fr τ ∧ fr 6 = .sc (.int .i64 k)) ?_ _ _ ?_)
      · rintro k fr τ hk ⟨hV, v6⟩
        have hel : (esc (m.2.data.toList.take k)).length ≤ 128 := by
          have := esc_len (m.2.data.toList.take k)
          rw [List.length_take] at this
          have h0 : m.2.data.toList.length = m.2.size := by simp
          omega
        by_cases hlt : k < m.2.size
        · have hd : decide ((k : Int) < (m.2.size : Int)) = true := decide_eq_true (by omega)
          obtain ⟨u, hu, _⟩ := byte_get hlt
          have e1' : (0 : Int) ≤ (k : Int) := by omega
          have e2 := wrap_succ hlt (by omega)
          have hc : ((u.toNat : Int) == 34 || (u.toNat : Int) == 92) = decide (u = 34 ∨ u = 92) := by
            have x1 : ((u.toNat : Int) == 34) = decide (u = 34) := by
              rw [Bool.eq_iff_iff, beq_iff_eq, decide_eq_true_iff, ← UInt8.toNat_inj]
              exact ⟨fun h => by simpa using (by omega : u.toNat = 34), fun h => by rw [h]; rfl⟩
            have x2 : ((u.toNat : Int) == 92) = decide (u = 92) := by
              rw [Bool.eq_iff_iff, beq_iff_eq, decide_eq_true_iff, ← UInt8.toNat_inj]
              exact ⟨fun h => by simpa using (by omega : u.toNat = 92), fun h => by rw [h]; rfl⟩
            rw [x1, x2, Bool.decide_or]
          obtain ⟨v8, v9, v10, v4, ⟨g5, v5, vm, vc⟩, vg⟩ := hV
          (repeat' first
    | refine w_seq ?_ | refine w_rg ?_ | refine wo_nil ?_ | refine g_skU ?_
    | ((first | apply s_plain | apply s_void | apply s_guard); · simp only [go_sem, Nat.reduceEqDiff, Nat.reduceAdd, Nat.reduceLeDiff, v5, vm, v6, hd]; (first | done | rfl))
    | ((first | apply g_T | apply g_F); · intro hb; simp only [go_sem, Nat.reduceEqDiff, Nat.reduceAdd, Nat.reduceLeDiff, v5, vm, v6, hd, hb]; (first | done | rfl))
    | ((first | apply g_gT | apply g_gF); · intro hb hc; simp only [go_sem, Nat.reduceEqDiff, Nat.reduceAdd, Nat.reduceLeDiff, v5, vm, v6, hd, hb, hc]; (first | done | rfl))
    | refine g_skT ?_ | refine g_skF ?_
    | ((first | apply g_goT | apply g_goF); · simp only [go_sem, Nat.reduceEqDiff, Nat.reduceAdd, Nat.reduceLeDiff, v5, vm, v6, hd]; (first | done | rfl))
    | (refine w_condT ?_ ?_; · simp only [go_sem, Nat.reduceEqDiff, Nat.reduceAdd, Nat.reduceLeDiff, v5, vm, v6, hd]; (first | done | rfl))
    | (refine w_condF ?_ ?_; · simp only [go_sem, Nat.reduceEqDiff, Nat.reduceAdd, Nat.reduceLeDiff, v5, vm, v6, hd]; (first | done | rfl))
    | refine w_skip ?_ | refine w_exit ?_ | refine w_ret ?_
    )
          refine w_block ?_
          (repeat' first
    | refine w_seq ?_ | refine w_rg ?_ | refine wo_nil ?_ | refine g_skU ?_
    | ((first | apply s_plain | apply s_void | apply s_guard); · simp only [go_sem, Nat.reduceEqDiff, Nat.reduceAdd, Nat.reduceLeDiff, v5, vm, v6, e1', Int.toNat_natCast, hu]; (first | done | rfl))
    | ((first | apply g_T | apply g_F); · intro hb; simp only [go_sem, Nat.reduceEqDiff, Nat.reduceAdd, Nat.reduceLeDiff, v5, vm, v6, e1', Int.toNat_natCast, hu, hb]; (first | done | rfl))
    | ((first | apply g_gT | apply g_gF); · intro hb hc; simp only [go_sem, Nat.reduceEqDiff, Nat.reduceAdd, Nat.reduceLeDiff, v5, vm, v6, e1', Int.toNat_natCast, hu, hb, hc]; (first | done | rfl))
    | refine g_skT ?_ | refine g_skF ?_
    | ((first | apply g_goT | apply g_goF); · simp only [go_sem, Nat.reduceEqDiff, Nat.reduceAdd, Nat.reduceLeDiff, v5, vm, v6, e1', Int.toNat_natCast, hu]; (first | done | rfl))
    )
          refine w_gen (J := fun fr τ => Wr l i m (out1 ++ esc (m.2.data.toList.take k)) fr τ ∧ fr 6 = .sc (.int .i64 k) ∧ fr 46 = .sc (.bool (decide (u = 34 ∨ u = 92)))) ⟨⟨by simp only [go_sem, Nat.reduceEqDiff, Nat.reduceAdd, Nat.reduceLeDiff, v8], by simp only [go_sem, Nat.reduceEqDiff, Nat.reduceAdd, Nat.reduceLeDiff, v9], by simp only [go_sem, Nat.reduceEqDiff, Nat.reduceAdd, Nat.reduceLeDiff, v10], by simp only [go_sem, Nat.reduceEqDiff, Nat.reduceAdd, Nat.reduceLeDiff, v4], ⟨g5, by simp only [go_sem, Nat.reduceEqDiff, Nat.reduceAdd, Nat.reduceLeDiff, v5], vm, vc⟩, by simp only [go_sem, Nat.reduceEqDiff, Nat.reduceAdd, Nat.reduceLeDiff]; exact vg⟩, by simp only [go_sem, Nat.reduceEqDiff, Nat.reduceAdd, Nat.reduceLeDiff, v6], by simp only [go_sem, Nat.reduceEqDiff, Nat.reduceAdd, Nat.reduceLeDiff, hc]⟩ ?_
          clear v8 v9 v10 v4 v5 vm vc vg v6 fr τ
          rintro fr τ ⟨hV, v6, v46⟩
          refine Wp.mono (Q := fun x fr τ => x = .normal ∧ Wr l i m (out1 ++ esc (m.2.data.toList.take k) ++ (if u = 34 ∨ u = 92 then [92] else [])) fr τ ∧ fr 6 = .sc (.int .i64 k)) ?_ ?_
          · by_cases hq : u = 34 ∨ u = 92
            · obtain ⟨v8, v9, v10, v4, ⟨g5, v5, vm, vc⟩, vg⟩ := hV
              refine w_condT (by simp only [go_sem, Nat.reduceEqDiff, Nat.reduceAdd, Nat.reduceLeDiff, v46, decide_eq_true hq]) ?_
              (repeat' first
    | refine w_seq ?_ | refine w_rg ?_ | refine wo_nil ?_ | refine g_skU ?_
    | ((first | apply s_plain | apply s_void | apply s_guard); · simp only [go_sem, Nat.reduceEqDiff, Nat.reduceAdd, Nat.reduceLeDiff, fillE, List.replicate_succ, List.replicate_zero, List.set_cons_zero, List.set_cons_succ]; (first | done | rfl))
    | ((first | apply g_T | apply g_F); · intro hb; simp only [go_sem, Nat.reduceEqDiff, Nat.reduceAdd, Nat.reduceLeDiff, fillE, List.replicate_succ, List.replicate_zero, List.set_cons_zero, List.set_cons_succ, hb]; (first | done | rfl))
    | ((first | apply g_gT | apply g_gF); · intro hb hc; simp only [go_sem, Nat.reduceEqDiff, Nat.reduceAdd, Nat.reduceLeDiff, fillE, List.replicate_succ, List.replicate_zero, List.set_cons_zero, List.set_cons_succ, hb, hc]; (first | done | rfl))
    | refine g_skT ?_ | refine g_skF ?_
    | ((first | apply g_goT | apply g_goF); · simp only [go_sem, Nat.reduceEqDiff, Nat.reduceAdd, Nat.reduceLeDiff, fillE, List.replicate_succ, List.replicate_zero, List.set_cons_zero, List.set_cons_succ]; (first | done | rfl))
    )
              refine s_gatL (os := OS) (ys := [.sc (.int .u8 92)]) (by simp only [go_sem, Nat.reduceEqDiff, Nat.reduceAdd, Nat.reduceLeDiff]; exact vg.new _) (by simp only [go_sem, Nat.reduceEqDiff, Nat.reduceAdd, Nat.reduceLeDiff, srcOf, elemsOf]) rfl (by rw [bp_len]; simp only [List.length_append, List.length_cons, List.length_nil]; omega) ?_
              intro p τ' hg2 kp
              have k6 := keep5 kp (by decide) (new5 (by decide) vm vc).1 (new5 (by decide) vm vc).2
              (repeat' first
    | refine w_seq ?_ | refine w_rg ?_ | refine wo_nil ?_ | refine g_skU ?_
    | ((first | apply s_plain | apply s_void | apply s_guard); · simp only [go_sem, Nat.reduceEqDiff, Nat.reduceAdd, Nat.reduceLeDiff]; (first | done | rfl))
    | ((first | apply g_T | apply g_F); · intro hb; simp only [go_sem, Nat.reduceEqDiff, Nat.reduceAdd, Nat.reduceLeDiff, hb]; (first | done | rfl))
    | ((first | apply g_gT | apply g_gF); · intro hb hc; simp only [go_sem, Nat.reduceEqDiff, Nat.reduceAdd, Nat.reduceLeDiff, hb, hc]; (first | done | rfl))
    | refine g_skT ?_ | refine g_skF ?_
    | ((first | apply g_goT | apply g_goF); · simp only [go_sem, Nat.reduceEqDiff, Nat.reduceAdd, Nat.reduceLeDiff]; (first | done | rfl))
    )
              refine ⟨rfl, ⟨?_, ?_, ?_, ?_, ⟨g5, ?_, k6.1, k6.2⟩, ?_⟩, ?_⟩
              · simp only [go_sem, Nat.reduceEqDiff, Nat.reduceAdd, Nat.reduceLeDiff, v8]
              · simp only [go_sem, Nat.reduceEqDiff, Nat.reduceAdd, Nat.reduceLeDiff, v9]
              · simp only [go_sem, Nat.reduceEqDiff, Nat.reduceAdd, Nat.reduceLeDiff, v10]
              · simp only [go_sem, Nat.reduceEqDiff, Nat.reduceAdd, Nat.reduceLeDiff, v4]
              · simp only [go_sem, Nat.reduceEqDiff, Nat.reduceAdd, Nat.reduceLeDiff, v5]
              · simp only [go_sem, Nat.reduceEqDiff, Nat.reduceAdd, Nat.reduceLeDiff]
                rw [if_pos hq, bp_app]
                exact hg2.one (by decide)
              · simp only [go_sem, Nat.reduceEqDiff, Nat.reduceAdd, Nat.reduceLeDiff, v6]
            · refine w_condF (by simp only [go_sem, Nat.reduceEqDiff, Nat.reduceAdd, Nat.reduceLeDiff, v46, decide_eq_false hq]) (w_skip ⟨rfl, ?_, v6⟩)
              rw [if_neg hq, List.append_nil]
              exact hV
          · rintro x fr τ ⟨rfl, ⟨v8, v9, v10, v4, ⟨g5, v5, vm, vc⟩, vg⟩, v6⟩
            have hcl2 : (if u = 34 ∨ u = 92 then ([92] : List UInt8) else []).length ≤ 1 := by split <;> simp
            (repeat' first
    | refine w_seq ?_ | refine w_rg ?_ | refine wo_nil ?_ | refine g_skU ?_
    | ((first | apply s_plain | apply s_void | apply s_guard); · simp only [go_sem, Nat.reduceEqDiff, Nat.reduceAdd, Nat.reduceLeDiff, v5, vm, v6, e1', Int.toNat_natCast, hu, fillE, List.replicate_succ, List.replicate_zero, List.set_cons_zero, List.set_cons_succ]; (first | done | rfl))
    | ((first | apply g_T | apply g_F); · intro hb; simp only [go_sem, Nat.reduceEqDiff, Nat.reduceAdd, Nat.reduceLeDiff, v5, vm, v6, e1', Int.toNat_natCast, hu, fillE, List.replicate_succ, List.replicate_zero, List.set_cons_zero, List.set_cons_succ, hb]; (first | done | rfl))
    | ((first | apply g_gT | apply g_gF); · intro hb hc; simp only [go_sem, Nat.reduceEqDiff, Nat.reduceAdd, Nat.reduceLeDiff, v5, vm, v6, e1', Int.toNat_natCast, hu, fillE, List.replicate_succ, List.replicate_zero, List.set_cons_zero, List.set_cons_succ, hb, hc]; (first | done | rfl))
    | refine g_skT ?_ | refine g_skF ?_
    | ((first | apply g_goT | apply g_goF); · simp only [go_sem, Nat.reduceEqDiff, Nat.reduceAdd, Nat.reduceLeDiff, v5, vm, v6, e1', Int.toNat_natCast, hu, fillE, List.replicate_succ, List.replicate_zero, List.set_cons_zero, List.set_cons_succ]; (first | done | rfl))
    )
            refine s_gatL (os := OS) (ys := [.sc (.int .u8 u.toNat)]) (by simp only [go_sem, Nat.reduceEqDiff, Nat.reduceAdd, Nat.reduceLeDiff]; exact vg.new _) (by simp only [go_sem, Nat.reduceEqDiff, Nat.reduceAdd, Nat.reduceLeDiff, srcOf, elemsOf]) rfl (by rw [bp_len]; simp only [List.length_append, List.length_cons, List.length_nil]; omega) ?_
            intro p τ' hg2 kp
            have k6 := keep5 kp (by decide) (new5 (by decide) vm vc).1 (new5 (by decide) vm vc).2
            (repeat' first
    | refine w_seq ?_ | refine w_rg ?_ | refine wo_nil ?_ | refine g_skU ?_
    | ((first | apply s_plain | apply s_void | apply s_guard); · simp only [go_sem, Nat.reduceEqDiff, Nat.reduceAdd, Nat.reduceLeDiff, v6, e2]; (first | done | rfl))
    | ((first | apply g_T | apply g_F); · intro hb; simp only [go_sem, Nat.reduceEqDiff, Nat.reduceAdd, Nat.reduceLeDiff, v6, e2, hb]; (first | done | rfl))
    | ((first | apply g_gT | apply g_gF); · intro hb hc; simp only [go_sem, Nat.reduceEqDiff, Nat.reduceAdd, Nat.reduceLeDiff, v6, e2, hb, hc]; (first | done | rfl))
    | refine g_skT ?_ | refine g_skF ?_
    | ((first | apply g_goT | apply g_goF); · simp only [go_sem, Nat.reduceEqDiff, Nat.reduceAdd, Nat.reduceLeDiff, v6, e2]; (first | done | rfl))
    | (refine w_condT ?_ ?_; · simp only [go_sem, Nat.reduceEqDiff, Nat.reduceAdd, Nat.reduceLeDiff, v6, e2]; (first | done | rfl))
    | (refine w_condF ?_ ?_; · simp only [go_sem, Nat.reduceEqDiff, Nat.reduceAdd, Nat.reduceLeDiff, v6, e2]; (first | done | rfl))
    | refine w_skip ?_ | refine w_exit ?_ | refine w_ret ?_
    )
            refine ⟨hlt, ⟨?_, ?_, ?_, ?_, ⟨g5, ?_, k6.1, k6.2⟩, ?_⟩, ?_⟩
            · simp only [go_sem, Nat.reduceEqDiff, Nat.reduceAdd, Nat.reduceLeDiff, v8]
            · simp only [go_sem, Nat.reduceEqDiff, Nat.reduceAdd, Nat.reduceLeDiff, v9]
            · simp only [go_sem, Nat.reduceEqDiff, Nat.reduceAdd, Nat.reduceLeDiff, v10]
            · simp only [go_sem, Nat.reduceEqDiff, Nat.reduceAdd, Nat.reduceLeDiff, v4]
            · simp only [go_sem, Nat.reduceEqDiff, Nat.reduceAdd, Nat.reduceLeDiff, v5]
            · simp only [go_sem, Nat.reduceEqDiff, Nat.reduceAdd, Nat.reduceLeDiff]
              rw [esc_succ hu, ← List.append_assoc, ← List.append_assoc, bp_app]
              exact hg2.one (by decide)
            · simp only [go_sem, Nat.reduceEqDiff, Nat.reduceAdd, Nat.reduceLeDiff]
        · have hd : decide ((k : Int) < (m.2.size : Int)) = false := decide_eq_false (by omega)
          have h0 : m.2.data.toList.length = m.2.size := by simp
          have hkn : m.2.data.toList.take k = m.2.data.toList := List.take_of_length_le (by omega)
          rw [hkn] at hV hel
          obtain ⟨v8, v9, v10, v4, ⟨g5, v5, vm, vc⟩, vg⟩ := hV
          (repeat' first
    | refine w_seq ?_ | refine w_rg ?_ | refine wo_nil ?_ | refine g_skU ?_
    | ((first | apply s_plain | apply s_void | apply s_guard); · simp only [go_sem, Nat.reduceEqDiff, Nat.reduceAdd, Nat.reduceLeDiff, v5, vm, v6, hd, fillE, List.replicate_succ, List.replicate_zero, List.set_cons_zero, List.set_cons_succ]; (first | done | rfl))
    | ((first | apply g_T | apply g_F); · intro hb; simp only [go_sem, Nat.reduceEqDiff, Nat.reduceAdd, Nat.reduceLeDiff, v5, vm, v6, hd, fillE, List.replicate_succ, List.replicate_zero, List.set_cons_zero, List.set_cons_succ, hb]; (first | done | rfl))
    | ((first | apply g_gT | apply g_gF); · intro hb hc; simp only [go_sem, Nat.reduceEqDiff, Nat.reduceAdd, Nat.reduceLeDiff, v5, vm, v6, hd, fillE, List.replicate_succ, List.replicate_zero, List.set_cons_zero, List.set_cons_succ, hb, hc]; (first | done | rfl))
    | refine g_skT ?_ | refine g_skF ?_
    | ((first | apply g_goT | apply g_goF); · simp only [go_sem, Nat.reduceEqDiff, Nat.reduceAdd, Nat.reduceLeDiff, v5, vm, v6, hd, fillE, List.replicate_succ, List.replicate_zero, List.set_cons_zero, List.set_cons_succ]; (first | done | rfl))
    | (refine w_condT ?_ ?_; · simp only [go_sem, Nat.reduceEqDiff, Nat.reduceAdd, Nat.reduceLeDiff, v5, vm, v6, hd, fillE, List.replicate_succ, List.replicate_zero, List.set_cons_zero, List.set_cons_succ]; (first | done | rfl))
    | (refine w_condF ?_ ?_; · simp only [go_sem, Nat.reduceEqDiff, Nat.reduceAdd, Nat.reduceLeDiff, v5, vm, v6, hd, fillE, List.replicate_succ, List.replicate_zero, List.set_cons_zero, List.set_cons_succ]; (first | done | rfl))
    | refine w_skip ?_ | refine w_exit ?_ | refine w_ret ?_
    )
          try simp only [if_true]
          (repeat' first
    | refine w_seq ?_ | refine w_rg ?_ | refine wo_nil ?_ | refine g_skU ?_
    | ((first | apply s_plain | apply s_void | apply s_guard); · simp only [go_sem, Nat.reduceEqDiff, Nat.reduceAdd, Nat.reduceLeDiff, fillE, List.replicate_succ, List.replicate_zero, List.set_cons_zero, List.set_cons_succ]; (first | done | rfl))
    | ((first | apply g_T | apply g_F); · intro hb; simp only [go_sem, Nat.reduceEqDiff, Nat.reduceAdd, Nat.reduceLeDiff, fillE, List.replicate_succ, List.replicate_zero, List.set_cons_zero, List.set_cons_succ, hb]; (first | done | rfl))
    | ((first | apply g_gT | apply g_gF); · intro hb hc; simp only [go_sem, Nat.reduceEqDiff, Nat.reduceAdd, Nat.reduceLeDiff, fillE, List.replicate_succ, List.replicate_zero, List.set_cons_zero, List.set_cons_succ, hb, hc]; (first | done | rfl))
    | refine g_skT ?_ | refine g_skF ?_
    | ((first | apply g_goT | apply g_goF); · simp only [go_sem, Nat.reduceEqDiff, Nat.reduceAdd, Nat.reduceLeDiff, fillE, List.replicate_succ, List.replicate_zero, List.set_cons_zero, List.set_cons_succ]; (first | done | rfl))
    )
          refine s_gatL (os := OS) (ys := [.sc (.int .u8 34)]) (by simp only [go_sem, Nat.reduceEqDiff, Nat.reduceAdd, Nat.reduceLeDiff]; exact vg.new _) (by simp only [go_sem, Nat.reduceEqDiff, Nat.reduceAdd, Nat.reduceLeDiff, srcOf, elemsOf]) rfl (by rw [bp_len]; simp only [List.length_append, List.length_cons, List.length_nil]; omega) ?_
          intro p τ' hg2 kp
          (repeat' first
    | refine w_seq ?_ | refine w_rg ?_ | refine wo_nil ?_ | refine g_skU ?_
    | ((first | apply s_plain | apply s_void | apply s_guard); · simp only [go_sem, Nat.reduceEqDiff, Nat.reduceAdd, Nat.reduceLeDiff]; (first | done | rfl))
    | ((first | apply g_T | apply g_F); · intro hb; simp only [go_sem, Nat.reduceEqDiff, Nat.reduceAdd, Nat.reduceLeDiff, hb]; (first | done | rfl))
    | ((first | apply g_gT | apply g_gF); · intro hb hc; simp only [go_sem, Nat.reduceEqDiff, Nat.reduceAdd, Nat.reduceLeDiff, hb, hc]; (first | done | rfl))
    | refine g_skT ?_ | refine g_skF ?_
    | ((first | apply g_goT | apply g_goF); · simp only [go_sem, Nat.reduceEqDiff, Nat.reduceAdd, Nat.reduceLeDiff]; (first | done | rfl))
    )
          refine ⟨⟨?_, ?_⟩, ?_, ?_⟩
          · simp only [go_sem, Nat.reduceEqDiff, Nat.reduceAdd, Nat.reduceLeDiff, v8]
          · simp only [go_sem, Nat.reduceEqDiff, Nat.reduceAdd, Nat.reduceLeDiff]
            rw [hsuc', bp_app]
            exact hg2.one (by decide)
          · simp only [go_sem, Nat.reduceEqDiff, Nat.reduceAdd, Nat.reduceLeDiff, v10]
          · simp only [go_sem, Nat.reduceEqDiff, Nat.reduceAdd, Nat.reduceLeDiff, v9]
      · refine ⟨⟨?_, ?_, ?_, ?_, ⟨g5, ?_, m2.1, m2.2⟩, ?_⟩, ?_⟩
        · simp only [go_sem, Nat.reduceEqDiff, Nat.reduceAdd, Nat.reduceLeDiff, w8]
        · simp only [go_sem, Nat.reduceEqDiff, Nat.reduceAdd, Nat.reduceLeDiff, w9]
        · simp only [go_sem, Nat.reduceEqDiff, Nat.reduceAdd, Nat.reduceLeDiff, w10]
        · simp only [go_sem, Nat.reduceEqDiff, Nat.reduceAdd, Nat.reduceLeDiff, w4]
        · simp only [go_sem, Nat.reduceEqDiff, Nat.reduceAdd, Nat.reduceLeDiff, w5]
        · simp only [go_sem, Nat.reduceEqDiff, Nat.reduceAdd, Nat.reduceLeDiff]
          have : esc [] = [] := rfl
          rw [this, List.append_nil]
          exact q2'
        · simp only [go_sem, Nat.reduceEqDiff, Nat.reduceAdd, Nat.reduceLeDiff]; rfl
  · rintro fr σ ⟨f8, hg⟩
    try simp only [if_true]
    have hp0 := hpl l.length
    (repeat' first
    | refine w_seq ?_ | refine w_rg ?_ | refine wo_nil ?_ | refine g_skU ?_
    | ((first | apply s_plain | apply s_void | apply s_guard); · simp only [go_sem, Nat.reduceEqDiff, Nat.reduceAdd, Nat.reduceLeDiff, fillE, List.replicate_succ, List.replicate_zero, List.set_cons_zero, List.set_cons_succ]; (first | done | rfl))
    | ((first | apply g_T | apply g_F); · intro hb; simp only [go_sem, Nat.reduceEqDiff, Nat.reduceAdd, Nat.reduceLeDiff, fillE, List.replicate_succ, List.replicate_zero, List.set_cons_zero, List.set_cons_succ, hb]; (first | done | rfl))
    | ((first | apply g_gT | apply g_gF); · intro hb hc; simp only [go_sem, Nat.reduceEqDiff, Nat.reduceAdd, Nat.reduceLeDiff, fillE, List.replicate_succ, List.replicate_zero, List.set_cons_zero, List.set_cons_succ, hb, hc]; (first | done | rfl))
    | refine g_skT ?_ | refine g_skF ?_
    | ((first | apply g_goT | apply g_goF); · simp only [go_sem, Nat.reduceEqDiff, Nat.reduceAdd, Nat.reduceLeDiff, fillE, List.replicate_succ, List.replicate_zero, List.set_cons_zero, List.set_cons_succ]; (first | done | rfl))
    )
    refine s_gatL (os := OS) (ys := [.sc (.int .u8 125)]) (by simp only [go_sem, Nat.reduceEqDiff, Nat.reduceAdd, Nat.reduceLeDiff]; exact hg.new _) (by simp only [go_sem, Nat.reduceEqDiff, Nat.reduceAdd, Nat.reduceLeDiff, srcOf, elemsOf]) rfl (by rw [bp_len]; simp only [List.length_cons, List.length_nil]; omega) ?_
    intro p τ hg2 kp
    have hE := gat_elems hg2
    have hE2 : elemsOf τ p = some (bp (preT l l.length ++ [125])) := by rw [hE, bp_app]; rfl
    have hB := bp_back (preT l l.length ++ [125])
    have hT : (⟨(preT l l.length ++ [125]).toArray⟩ : ByteArray) = textS l := by
      refine Go.WideShapes.bytes_inj ?_
      simp [textS, bodyS, preT, ByteArray.data_append]
    (repeat' first
    | refine w_seq ?_ | refine w_rg ?_ | refine wo_nil ?_ | refine g_skU ?_
    | ((first | apply s_plain | apply s_void | apply s_guard); · simp only [go_sem, Nat.reduceEqDiff, Nat.reduceAdd, Nat.reduceLeDiff, hE2, hB, hT]; (first | done | rfl))
    | ((first | apply g_T | apply g_F); · intro hb; simp only [go_sem, Nat.reduceEqDiff, Nat.reduceAdd, Nat.reduceLeDiff, hE2, hB, hT, hb]; (first | done | rfl))
    | ((first | apply g_gT | apply g_gF); · intro hb hc; simp only [go_sem, Nat.reduceEqDiff, Nat.reduceAdd, Nat.reduceLeDiff, hE2, hB, hT, hb, hc]; (first | done | rfl))
    | refine g_skT ?_ | refine g_skF ?_
    | ((first | apply g_goT | apply g_goF); · simp only [go_sem, Nat.reduceEqDiff, Nat.reduceAdd, Nat.reduceLeDiff, hE2, hB, hT]; (first | done | rfl))
    | (refine w_condT ?_ ?_; · simp only [go_sem, Nat.reduceEqDiff, Nat.reduceAdd, Nat.reduceLeDiff, hE2, hB, hT]; (first | done | rfl))
    | (refine w_condF ?_ ?_; · simp only [go_sem, Nat.reduceEqDiff, Nat.reduceAdd, Nat.reduceLeDiff, hE2, hB, hT]; (first | done | rfl))
    | refine w_skip ?_ | refine w_exit ?_ | refine w_ret ?_
    )
    exact ⟨.inr rfl, by simp only [go_sem, Nat.reduceEqDiff, Nat.reduceAdd, Nat.reduceLeDiff, retOf, resOf]; first | done | rfl⟩
  · refine ⟨by simp only [go_sem, Nat.reduceEqDiff, Nat.reduceAdd, Nat.reduceLeDiff], ?_⟩
    simp only [go_sem, Nat.reduceEqDiff, Nat.reduceAdd, Nat.reduceLeDiff]
    exact .inr ⟨7, 0, true, by decide, rfl, by simp only [go_sem, Nat.reduceEqDiff, Nat.reduceAdd, Nat.reduceLeDiff]; first | done | rfl, by simp only [go_sem, Nat.reduceEqDiff, Nat.reduceAdd, Nat.reduceLeDiff]; first | done | omega, by simp [bp, preT], fun h => by cases h⟩
  · simp only [go_sem, Nat.reduceEqDiff, Nat.reduceAdd, Nat.reduceLeDiff]
  · simp only [go_sem, Nat.reduceEqDiff, Nat.reduceAdd, Nat.reduceLeDiff, hll]
end
end Go.Proofs.YtjijlmfhnkipmaaDoorPv
namespace Go.Proofs.YtjijlmfhnkipmaaDoorPv
open Go
set_option linter.unusedSimpArgs false
set_option linter.unusedVariables false
set_option maxHeartbeats 4000000
attribute [local go_sem ↓] e_mv e_pick e_bin e_eqs e_beq e_un e_cvi e_str e_s2b e_b2s e_box e_build e_bsl e_ld e_st e_nck e_mkf e_slcS e_slcL e_fa e_fld e_ia e_iaa e_ix e_ixa e_ext e_lenS e_lenL e_mnmx e_app e_appb e_bbx e_msl e_clr e_call e_callv pa_t pa_c pa_f slcSP_str hiOf_some hiOf_none loOf_some loOf_none set_eq set_ne
attribute [local go_sem] pv pv1 simple frOf_0 frOf_1 frOf_2 frOf_3 frOf_4 frOf_5 ne_eq not_false_eq_true if_true Bool.false_eq_true if_false pbin punary Option.map_some Option.bind_some pick_and pick_or opt_true Bool.true_and Bool.and_self Bool.and_true Bool.true_or Bool.false_or Bool.not_true Bool.not_false callE pcall_eq List.map_cons List.map_nil List.append_nil List.nil_append List.cons_append mapM_cons' mapM_nil' dep_eq fz_sc fz_sl fz_em fz_fn fz_fp fz_agg fz_bx fz_ob Nat.lt_irrefl Nat.zero_lt_one Nat.lt_add_one flat clL cl Bool.or_true okc cells_agg cells_sc cells_sl cells_em cells_ob cells_fn cells_bx cells_fp List.length_cons List.length_nil Nat.zero_add and_self true_and and_true new_m new_c put_m put_c nil_m nil_c deref List.getElem?_cons_zero List.getElem?_cons_succ List.drop_zero List.drop_succ_cons List.take_succ_cons List.take_zero Nat.le_refl false_and and_false
set_option maxRecDepth 8000
/-- transhipment/transhipmentref03.New -/
def d242 : Def := (.code 1 [.tmp 2, .tmp 3] (.seq (.rg false [⟨.some 2, .none, .mv (.c (.slice .none 0 0))⟩, ⟨.some 3, .none, .mv (.c (.int .i64 0))⟩]) (.seq (.seq (.rg false [⟨.some 7, .none, .mv (.t 0)⟩, ⟨.some 8, .none, .lenL (.t 7)⟩, ⟨.some 9, .none, .bin .gtr (.t 8) (.c (.int .i64 8))⟩]) (.cond (.t 9) (.seq (.rg false [⟨.some 2, .none, .mv (.c (.slice .none 0 0))⟩, ⟨.some 3, .none, .mv (.c (.int .i64 2))⟩]) .ret) .skip)) (.seq (.seq (.rg false [⟨.some 10, .none, .mv (.t 0)⟩, ⟨.some 11, .none, .lenL (.t 10)⟩, ⟨.some 12, .none, .mv (.c (.int .i64 0))⟩]) (.block 0 (.loop (.seq (.rg false [⟨.some 13, .none, .bin .lss (.t 12) (.t 11)⟩]) (.seq (.cond (.t 13) .skip (.exit 0)) (.seq (.block 1 (.seq (.rg false [⟨.some 14, .none, .ia 2 (.t 10) (.t 12)⟩, ⟨.some 15, .none, .ld (.some 2) (.t 14)⟩, ⟨.some 5, .none, .box (.c (.agg #[.string ⟨#[]⟩, .string ⟨#[]⟩]))⟩, ⟨.none, .none, .st 2 (.t 5) (.t 15)⟩]) (.seq (.rg false [⟨.some 16, .none, .fa 0 (.t 5)⟩, ⟨.some 17, .none, .ld .none (.t 16)⟩, ⟨.some 18, .none, .call 117 .pure [.t 17]⟩, ⟨.some 19, .none, .un .not (.t 18)⟩, ⟨.some 20, .none, .mv (.t 19)⟩, ⟨.some 21, .some (20, false), .fa 1 (.t 5)⟩, ⟨.some 22, .some (20, false), .ld .none (.t 21)⟩, ⟨.some 23, .some (20, false), .call 118 .pure [.t 22]⟩, ⟨.some 24, .some (20, false), .un .not (.t 23)⟩, ⟨.some 25, .none, .pick (.t 20) (.c (.bool true)) (.t 24)⟩]) (.cond (.t 25) (.seq (.rg false [⟨.some 2, .none, .mv (.c (.slice .none 0 0))⟩, ⟨.some 3, .none, .mv (.c (.int .i64 1))⟩]) .ret) .skip)))) (.rg false [⟨.some 26, .none, .bin .add (.t 12) (.c (.int .i64 1))⟩, ⟨.some 12, .none, .mv (.t 26)⟩]))))))) (.seq (.rg false [⟨.some 27, .none, .mv (.t 0)⟩, ⟨.some 28, .none, .call 201 .pure [.t 27]⟩, ⟨.some 6, .none, .mv (.t 28)⟩]) (.seq (.seq (.rg false [⟨.some 29, .none, .mv (.t 6)⟩, ⟨.some 30, .none, .call 110 .pure [.t 29]⟩, ⟨.some 31, .none, .un .not (.t 30)⟩]) (.cond (.t 31) (.seq (.rg false [⟨.some 2, .none, .mv (.c (.slice .none 0 0))⟩, ⟨.some 3, .none, .mv (.c (.int .i64 10))⟩]) .ret) .skip)) (.seq (.rg false [⟨.some 32, .none, .mv (.t 6)⟩, ⟨.some 2, .none, .mv (.t 32)⟩, ⟨.some 3, .none, .mv (.c (.int .i64 0))⟩]) .ret)))))))
/-- transhipment/transhipmentlaw03.LabelSets -/
def d235 : Def := (.code 2 [.tmp 4] (.seq (.rg false [⟨.some 4, .none, .mv (.c (.bool false))⟩]) (.seq (.rg false [⟨.some 11, .none, .mv (.t 0)⟩, ⟨.some 12, .none, .call 241 .pure [.t 11]⟩, ⟨.some 0, .none, .mv (.t 12)⟩]) (.seq (.rg false [⟨.some 14, .none, .mv (.t 0)⟩, ⟨.some 15, .none, .call 129 .pure [.t 14]⟩, ⟨.some 13, .none, .mv (.t 15)⟩, ⟨.some 16, .none, .ext (.t 13) 0⟩, ⟨.some 17, .none, .ext (.t 13) 1⟩, ⟨.some 5, .none, .mv (.t 16)⟩, ⟨.some 6, .none, .mv (.t 17)⟩]) (.seq (.rg false [⟨.some 19, .none, .mv (.t 0)⟩, ⟨.some 20, .none, .call 242 .pure [.t 19]⟩, ⟨.some 18, .none, .mv (.t 20)⟩, ⟨.some 21, .none, .ext (.t 18) 0⟩, ⟨.some 22, .none, .ext (.t 18) 1⟩, ⟨.some 7, .none, .mv (.t 21)⟩, ⟨.some 8, .none, .mv (.t 22)⟩]) (.seq (.rg false [⟨.some 24, .none, .mv (.t 0)⟩, ⟨.some 25, .none, .call 202 .pure [.t 24]⟩, ⟨.some 23, .none, .mv (.t 25)⟩, ⟨.some 26, .none, .ext (.t 23) 0⟩, ⟨.some 27, .none, .ext (.t 23) 1⟩, ⟨.some 9, .none, .mv (.t 26)⟩, ⟨.some 10, .none, .mv (.t 27)⟩]) (.seq (.seq (.rg false [⟨.some 28, .none, .mv (.t 0)⟩, ⟨.some 29, .none, .call 113 .pure [.t 28]⟩, ⟨.some 30, .none, .mv (.t 0)⟩, ⟨.some 31, .none, .call 110 .pure [.t 30]⟩, ⟨.some 32, .none, .beq true (.t 29) (.t 31)⟩, ⟨.some 33, .none, .mv (.t 32)⟩, ⟨.some 34, .some (33, false), .mv (.t 6)⟩, ⟨.some 35, .some (33, false), .mv (.t 8)⟩, ⟨.some 36, .some (33, false), .bin .neq (.t 34) (.t 35)⟩, ⟨.some 37, .none, .pick (.t 33) (.c (.bool true)) (.t 36)⟩, ⟨.some 38, .none, .mv (.t 37)⟩, ⟨.some 39, .some (38, false), .mv (.t 5)⟩, ⟨.some 40, .some (38, false), .mv (.t 7)⟩, ⟨.some 41, .some (38, false), .call 192 .pure [.t 39, .t 40]⟩, ⟨.some 42, .some (38, false), .un .not (.t 41)⟩, ⟨.some 43, .none, .pick (.t 38) (.c (.bool true)) (.t 42)⟩, ⟨.some 44, .none, .mv (.t 43)⟩, ⟨.some 45, .some (44, false), .mv (.t 0)⟩, ⟨.some 46, .some (44, false), .mv (.t 1)⟩, ⟨.some 47, .some (44, false), .call 114 .pure [.t 45, .t 46]⟩, ⟨.some 48, .some (44, false), .mv (.t 0)⟩, ⟨.some 49, .some (44, false), .mv (.t 1)⟩, ⟨.some 50, .some (44, false), .call 200 .pure [.t 48, .t 49]⟩, ⟨.some 51, .some (44, false), .bin .neq (.t 47) (.t 50)⟩, ⟨.some 52, .none, .pick (.t 44) (.c (.bool true)) (.t 51)⟩, ⟨.some 53, .none, .mv (.t 52)⟩, ⟨.some 54, .some (53, false), .call 240 .pure []⟩, ⟨.some 55, .some (53, false), .un .not (.t 54)⟩, ⟨.some 56, .none, .pick (.t 53) (.c (.bool true)) (.t 55)⟩]) (.cond (.t 56) (.seq (.rg false [⟨.some 4, .none, .mv (.c (.bool false))⟩]) .ret) .skip)) (.seq (.seq (.rg false [⟨.some 57, .none, .mv (.t 0)⟩, ⟨.some 58, .none, .call 110 .pure [.t 57]⟩, ⟨.some 59, .none, .un .not (.t 58)⟩]) (.cond (.t 59) (.seq (.rg false [⟨.some 60, .none, .mv (.t 10)⟩, ⟨.some 61, .none, .bin .eql (.t 60) (.c (.int .i64 1))⟩, ⟨.some 62, .none, .mv (.t 61)⟩, ⟨.some 63, .some (62, true), .mv (.t 9)⟩, ⟨.some 64, .some (62, true), .bin .eql (.t 63) (.c (.string ⟨#[]⟩))⟩, ⟨.some 65, .none, .pick (.t 62) (.t 64) (.c (.bool false))⟩, ⟨.some 4, .none, .mv (.t 65)⟩]) .ret) .skip)) (.seq (.rg false [⟨.some 66, .none, .mv (.t 10)⟩, ⟨.some 67, .none, .bin .eql (.t 66) (.c (.int .i64 0))⟩, ⟨.some 68, .none, .mv (.t 67)⟩, ⟨.some 69, .some (68, true), .mv (.t 9)⟩, ⟨.some 70, .some (68, true), .mv (.t 0)⟩, ⟨.some 71, .some (68, true), .call 211 .pure [.t 70]⟩, ⟨.some 72, .some (68, true), .bin .eql (.t 69) (.t 71)⟩, ⟨.some 73, .none, .pick (.t 68) (.t 72) (.c (.bool false))⟩, ⟨.some 4, .none, .mv (.t 73)⟩]) .ret)))))))))
def lw : List (Nat × Def) := [(242, d242), (235, d235), (241, d108)]
section
variable {env : Nat → Option Def} {fr : Fr} {σ σ' : St} {K : Fr → St → Prop} {Q : X → Fr → St → Prop}
theorem a242 (L : Has ll0 env) (M : Has lm0 env) (R : Has lr env) (W : Has lw env) {l : List Lab} (hn : l.length ≤ 9223372036854775807) (hl : Smalls l) :
    AV env 242 [.sl (labs l)] = some (.tu [.sl (labs (newL l).1), .sc (.int .i64 (newL l).2)]) := by
  have hll := labs_len l
  refine AV_wp (W (242, d242) (by simp [lw])) rfl ?_
  (repeat' first
    | refine w_seq ?_ | refine w_rg ?_ | refine wo_nil ?_ | refine g_skU ?_
    | ((first | apply s_plain | apply s_void | apply s_guard); · simp only [go_sem, Nat.reduceEqDiff, Nat.reduceAdd, Nat.reduceLeDiff, hll]; (first | done | rfl))
    | ((first | apply g_T | apply g_F); · intro hb; simp only [go_sem, Nat.reduceEqDiff, Nat.reduceAdd, Nat.reduceLeDiff, hll, hb]; (first | done | rfl))
    | ((first | apply g_gT | apply g_gF); · intro hb hc; simp only [go_sem, Nat.reduceEqDiff, Nat.reduceAdd, Nat.reduceLeDiff, hll, hb, hc]; (first | done | rfl))
    | refine g_skT ?_ | refine g_skF ?_
    | ((first | apply g_goT | apply g_goF); · simp only [go_sem, Nat.reduceEqDiff, Nat.reduceAdd, Nat.reduceLeDiff, hll]; (first | done | rfl))
    )
  by_cases h8 : (l.length : Int) > 8
  · have hd : decide ((l.length : Int) > 8) = true := decide_eq_true h8
    (repeat' first
    | refine w_seq ?_ | refine w_rg ?_ | refine wo_nil ?_ | refine g_skU ?_
    | ((first | apply s_plain | apply s_void | apply s_guard); · simp only [go_sem, Nat.reduceEqDiff, Nat.reduceAdd, Nat.reduceLeDiff, hd]; (first | done | rfl))
    | ((first | apply g_T | apply g_F); · intro hb; simp only [go_sem, Nat.reduceEqDiff, Nat.reduceAdd, Nat.reduceLeDiff, hd, hb]; (first | done | rfl))
    | ((first | apply g_gT | apply g_gF); · intro hb hc; simp only [go_sem, Nat.reduceEqDiff, Nat.reduceAdd, Nat.reduceLeDiff, hd, hb, hc]; (first | done | rfl))
    | refine g_skT ?_ | refine g_skF ?_
    | ((first | apply g_goT | apply g_goF); · simp only [go_sem, Nat.reduceEqDiff, Nat.reduceAdd, Nat.reduceLeDiff, hd]; (first | done | rfl))
    | (refine w_condT ?_ ?_; · simp only [go_sem, Nat.reduceEqDiff, Nat.reduceAdd, Nat.reduceLeDiff, hd]; (first | done | rfl))
    | (refine w_condF ?_ ?_; · simp only [go_sem, Nat.reduceEqDiff, Nat.reduceAdd, Nat.reduceLeDiff, hd]; (first | done | rfl))
    | refine w_skip ?_ | refine w_exit ?_ | refine w_ret ?_
    )
    exact ⟨.inr rfl, by simp only [go_sem, Nat.reduceEqDiff, Nat.reduceAdd, Nat.reduceLeDiff, retOf, resOf]; simp only [newL, if_pos h8]; rfl⟩
  · have hd : decide ((l.length : Int) > 8) = false := decide_eq_false h8
    (repeat' first
    | refine w_seq ?_ | refine w_rg ?_ | refine wo_nil ?_ | refine g_skU ?_
    | ((first | apply s_plain | apply s_void | apply s_guard); · simp only [go_sem, Nat.reduceEqDiff, Nat.reduceAdd, Nat.reduceLeDiff, hd]; (first | done | rfl))
    | ((first | apply g_T | apply g_F); · intro hb; simp only [go_sem, Nat.reduceEqDiff, Nat.reduceAdd, Nat.reduceLeDiff, hd, hb]; (first | done | rfl))
    | ((first | apply g_gT | apply g_gF); · intro hb hc; simp only [go_sem, Nat.reduceEqDiff, Nat.reduceAdd, Nat.reduceLeDiff, hd, hb, hc]; (first | done | rfl))
    | refine g_skT ?_ | refine g_skF ?_
    | ((first | apply g_goT | apply g_goF); · simp only [go_sem, Nat.reduceEqDiff, Nat.reduceAdd, Nat.reduceLeDiff, hd]; (first | done | rfl))
    | (refine w_condT ?_ ?_; · simp only [go_sem, Nat.reduceEqDiff, Nat.reduceAdd, Nat.reduceLeDiff, hd]; (first | done | rfl))
    | (refine w_condF ?_ ?_; · simp only [go_sem, Nat.reduceEqDiff, Nat.reduceAdd, Nat.reduceLeDiff, hd]; (first | done | rfl))
    | refine w_skip ?_ | refine w_exit ?_ | refine w_ret ?_
    )
    (repeat' first
    | refine w_seq ?_ | refine w_rg ?_ | refine wo_nil ?_ | refine g_skU ?_
    | ((first | apply s_plain | apply s_void | apply s_guard); · simp only [go_sem, Nat.reduceEqDiff, Nat.reduceAdd, Nat.reduceLeDiff, hll]; (first | done | rfl))
    | ((first | apply g_T | apply g_F); · intro hb; simp only [go_sem, Nat.reduceEqDiff, Nat.reduceAdd, Nat.reduceLeDiff, hll, hb]; (first | done | rfl))
    | ((first | apply g_gT | apply g_gF); · intro hb hc; simp only [go_sem, Nat.reduceEqDiff, Nat.reduceAdd, Nat.reduceLeDiff, hll, hb, hc]; (first | done | rfl))
    | refine g_skT ?_ | refine g_skF ?_
    | ((first | apply g_goT | apply g_goF); · simp only [go_sem, Nat.reduceEqDiff, Nat.reduceAdd, Nat.reduceLeDiff, hll]; (first | done | rfl))
    )
    refine w_block (w_range l.length (by omega) (fun i fr σ => fr 0 = .sl (labs l) ∧ fr 10 = .sl (labs l) ∧ ∀ j, j < i → (!mayB (nth l j)) = false) (by decide) ?_ ?_ ?_ _ _ ?_ ?_ ?_)
    · rintro i fr σ v ⟨h0, h1, h2⟩
      refine ⟨⟨?_, ?_, h2⟩, ⟨?_, ?_, h2⟩, ⟨?_, ?_, h2⟩⟩ <;> simp only [go_sem, Nat.reduceEqDiff, Nat.reduceAdd, Nat.reduceLeDiff, h0, h1]
    · rintro i fr σ hi ⟨h0, h10, h3⟩ hti htn
      have hx := List.getElem?_eq_getElem hi
      have hy := labs_at hx
      have hni : nth l i = l[i] := by unfold nth; rw [hx]; rfl
      have e1 : (0 : Int) ≤ (i : Int) ∧ (i : Int) < (l.length : Int) := by omega
      have hm1 := a117 L (hl _ (List.getElem_mem hi)).1
      have hm2 := a118 L (hl _ (List.getElem_mem hi)).2
      refine w_block ?_
      simp only [lab] at hy
      (repeat' first
    | refine w_seq ?_ | refine w_rg ?_ | refine wo_nil ?_ | refine g_skU ?_
    | ((first | apply s_plain | apply s_void | apply s_guard); · simp only [go_sem, Nat.reduceEqDiff, Nat.reduceAdd, Nat.reduceLeDiff, h0, h10, hti, e1, hll, Int.toNat_natCast, hy, hm1, hm2, List.modify_zero_cons]; (first | done | rfl))
    | ((first | apply g_T | apply g_F); · intro hb; simp only [go_sem, Nat.reduceEqDiff, Nat.reduceAdd, Nat.reduceLeDiff, h0, h10, hti, e1, hll, Int.toNat_natCast, hy, hm1, hm2, List.modify_zero_cons, hb]; (first | done | rfl))
    | ((first | apply g_gT | apply g_gF); · intro hb hc; simp only [go_sem, Nat.reduceEqDiff, Nat.reduceAdd, Nat.reduceLeDiff, h0, h10, hti, e1, hll, Int.toNat_natCast, hy, hm1, hm2, List.modify_zero_cons, hb, hc]; (first | done | rfl))
    | refine g_skT ?_ | refine g_skF ?_
    | ((first | apply g_goT | apply g_goF); · simp only [go_sem, Nat.reduceEqDiff, Nat.reduceAdd, Nat.reduceLeDiff, h0, h10, hti, e1, hll, Int.toNat_natCast, hy, hm1, hm2, List.modify_zero_cons]; (first | done | rfl))
    )
      have hbad : (!mayB (nth l i)) = (!nameB l[i].1 || !valueB l[i].2) := by
        rw [hni]; unfold mayB
        cases nameB l[i].1 <;> cases valueB l[i].2 <;> rfl
      cases hpi : (!nameB l[i].1 || !valueB l[i].2) with
      | true =>
        rw [← hbad] at hpi
        (repeat' first
    | refine w_seq ?_ | refine w_rg ?_ | refine wo_nil ?_ | refine g_skU ?_
    | ((first | apply s_plain | apply s_void | apply s_guard); · simp only [go_sem, Nat.reduceEqDiff, Nat.reduceAdd, Nat.reduceLeDiff]; (first | done | rfl))
    | ((first | apply g_T | apply g_F); · intro hb; simp only [go_sem, Nat.reduceEqDiff, Nat.reduceAdd, Nat.reduceLeDiff, hb]; (first | done | rfl))
    | ((first | apply g_gT | apply g_gF); · intro hb hc; simp only [go_sem, Nat.reduceEqDiff, Nat.reduceAdd, Nat.reduceLeDiff, hb, hc]; (first | done | rfl))
    | refine g_skT ?_ | refine g_skF ?_
    | ((first | apply g_goT | apply g_goF); · simp only [go_sem, Nat.reduceEqDiff, Nat.reduceAdd, Nat.reduceLeDiff]; (first | done | rfl))
    | (refine w_condT ?_ ?_; · simp only [go_sem, Nat.reduceEqDiff, Nat.reduceAdd, Nat.reduceLeDiff]; (first | done | rfl))
    | (refine w_condF ?_ ?_; · simp only [go_sem, Nat.reduceEqDiff, Nat.reduceAdd, Nat.reduceLeDiff]; (first | done | rfl))
    | refine w_skip ?_ | refine w_exit ?_ | refine w_ret ?_
    )
        have hw : wrongB l = true := by unfold wrongB; rw [found_hit hi h3 hpi]; simp
        exact ⟨.inr rfl, by simp only [go_sem, Nat.reduceEqDiff, Nat.reduceAdd, Nat.reduceLeDiff, retOf, resOf]; simp only [newL, if_neg h8, hw, if_true]; rfl⟩
      | false =>
        rw [← hbad] at hpi
        (repeat' first
    | refine w_seq ?_ | refine w_rg ?_ | refine wo_nil ?_ | refine g_skU ?_
    | ((first | apply s_plain | apply s_void | apply s_guard); · simp only [go_sem, Nat.reduceEqDiff, Nat.reduceAdd, Nat.reduceLeDiff]; (first | done | rfl))
    | ((first | apply g_T | apply g_F); · intro hb; simp only [go_sem, Nat.reduceEqDiff, Nat.reduceAdd, Nat.reduceLeDiff, hb]; (first | done | rfl))
    | ((first | apply g_gT | apply g_gF); · intro hb hc; simp only [go_sem, Nat.reduceEqDiff, Nat.reduceAdd, Nat.reduceLeDiff, hb, hc]; (first | done | rfl))
    | refine g_skT ?_ | refine g_skF ?_
    | ((first | apply g_goT | apply g_goF); · simp only [go_sem, Nat.reduceEqDiff, Nat.reduceAdd, Nat.reduceLeDiff]; (first | done | rfl))
    | (refine w_condT ?_ ?_; · simp only [go_sem, Nat.reduceEqDiff, Nat.reduceAdd, Nat.reduceLeDiff]; (first | done | rfl))
    | (refine w_condF ?_ ?_; · simp only [go_sem, Nat.reduceEqDiff, Nat.reduceAdd, Nat.reduceLeDiff]; (first | done | rfl))
    | refine w_skip ?_ | refine w_exit ?_ | refine w_ret ?_
    )
        refine ⟨⟨?_, ?_, fun j hj => ?_⟩, ?_, ?_⟩
        · simp only [go_sem, Nat.reduceEqDiff, Nat.reduceAdd, Nat.reduceLeDiff, h0]
        · simp only [go_sem, Nat.reduceEqDiff, Nat.reduceAdd, Nat.reduceLeDiff, h10]
        · by_cases hji : j = i
          · rw [hji]; exact hpi
          · exact h3 j (by omega)
        · simp only [go_sem, Nat.reduceEqDiff, Nat.reduceAdd, Nat.reduceLeDiff, hti]
        · simp only [go_sem, Nat.reduceEqDiff, Nat.reduceAdd, Nat.reduceLeDiff, htn]
    · rintro fr σ ⟨h0, h10, h3⟩
      try simp only [if_true]
      have hw : wrongB l = false := by unfold wrongB; rw [found_none h3]; rfl
      have h201 := a201 L R (l := l) (by omega) hl
      have h110 := a110 L M (l := sortedL l) (by rw [sortedL_len]; exact hn) (sorted_smalls hl)
      (repeat' first
    | refine w_seq ?_ | refine w_rg ?_ | refine wo_nil ?_ | refine g_skU ?_
    | ((first | apply s_plain | apply s_void | apply s_guard); · simp only [go_sem, Nat.reduceEqDiff, Nat.reduceAdd, Nat.reduceLeDiff, h0, h201]; (first | done | rfl))
    | ((first | apply g_T | apply g_F); · intro hb; simp only [go_sem, Nat.reduceEqDiff, Nat.reduceAdd, Nat.reduceLeDiff, h0, h201, hb]; (first | done | rfl))
    | ((first | apply g_gT | apply g_gF); · intro hb hc; simp only [go_sem, Nat.reduceEqDiff, Nat.reduceAdd, Nat.reduceLeDiff, h0, h201, hb, hc]; (first | done | rfl))
    | refine g_skT ?_ | refine g_skF ?_
    | ((first | apply g_goT | apply g_goF); · simp only [go_sem, Nat.reduceEqDiff, Nat.reduceAdd, Nat.reduceLeDiff, h0, h201]; (first | done | rfl))
    )
      (repeat' first
    | refine w_seq ?_ | refine w_rg ?_ | refine wo_nil ?_ | refine g_skU ?_
    | ((first | apply s_plain | apply s_void | apply s_guard); · simp only [go_sem, Nat.reduceEqDiff, Nat.reduceAdd, Nat.reduceLeDiff, h110]; (first | done | rfl))
    | ((first | apply g_T | apply g_F); · intro hb; simp only [go_sem, Nat.reduceEqDiff, Nat.reduceAdd, Nat.reduceLeDiff, h110, hb]; (first | done | rfl))
    | ((first | apply g_gT | apply g_gF); · intro hb hc; simp only [go_sem, Nat.reduceEqDiff, Nat.reduceAdd, Nat.reduceLeDiff, h110, hb, hc]; (first | done | rfl))
    | refine g_skT ?_ | refine g_skF ?_
    | ((first | apply g_goT | apply g_goF); · simp only [go_sem, Nat.reduceEqDiff, Nat.reduceAdd, Nat.reduceLeDiff, h110]; (first | done | rfl))
    )
      cases hr : rightL (sortedL l) with
      | false =>
        (repeat' first
    | refine w_seq ?_ | refine w_rg ?_ | refine wo_nil ?_ | refine g_skU ?_
    | ((first | apply s_plain | apply s_void | apply s_guard); · simp only [go_sem, Nat.reduceEqDiff, Nat.reduceAdd, Nat.reduceLeDiff]; (first | done | rfl))
    | ((first | apply g_T | apply g_F); · intro hb; simp only [go_sem, Nat.reduceEqDiff, Nat.reduceAdd, Nat.reduceLeDiff, hb]; (first | done | rfl))
    | ((first | apply g_gT | apply g_gF); · intro hb hc; simp only [go_sem, Nat.reduceEqDiff, Nat.reduceAdd, Nat.reduceLeDiff, hb, hc]; (first | done | rfl))
    | refine g_skT ?_ | refine g_skF ?_
    | ((first | apply g_goT | apply g_goF); · simp only [go_sem, Nat.reduceEqDiff, Nat.reduceAdd, Nat.reduceLeDiff]; (first | done | rfl))
    | (refine w_condT ?_ ?_; · simp only [go_sem, Nat.reduceEqDiff, Nat.reduceAdd, Nat.reduceLeDiff]; (first | done | rfl))
    | (refine w_condF ?_ ?_; · simp only [go_sem, Nat.reduceEqDiff, Nat.reduceAdd, Nat.reduceLeDiff]; (first | done | rfl))
    | refine w_skip ?_ | refine w_exit ?_ | refine w_ret ?_
    )
        exact ⟨.inr rfl, by simp only [go_sem, Nat.reduceEqDiff, Nat.reduceAdd, Nat.reduceLeDiff, retOf, resOf]; simp only [newL, if_neg h8, hw, hr]; rfl⟩
      | true =>
        (repeat' first
    | refine w_seq ?_ | refine w_rg ?_ | refine wo_nil ?_ | refine g_skU ?_
    | ((first | apply s_plain | apply s_void | apply s_guard); · simp only [go_sem, Nat.reduceEqDiff, Nat.reduceAdd, Nat.reduceLeDiff]; (first | done | rfl))
    | ((first | apply g_T | apply g_F); · intro hb; simp only [go_sem, Nat.reduceEqDiff, Nat.reduceAdd, Nat.reduceLeDiff, hb]; (first | done | rfl))
    | ((first | apply g_gT | apply g_gF); · intro hb hc; simp only [go_sem, Nat.reduceEqDiff, Nat.reduceAdd, Nat.reduceLeDiff, hb, hc]; (first | done | rfl))
    | refine g_skT ?_ | refine g_skF ?_
    | ((first | apply g_goT | apply g_goF); · simp only [go_sem, Nat.reduceEqDiff, Nat.reduceAdd, Nat.reduceLeDiff]; (first | done | rfl))
    | (refine w_condT ?_ ?_; · simp only [go_sem, Nat.reduceEqDiff, Nat.reduceAdd, Nat.reduceLeDiff]; (first | done | rfl))
    | (refine w_condF ?_ ?_; · simp only [go_sem, Nat.reduceEqDiff, Nat.reduceAdd, Nat.reduceLeDiff]; (first | done | rfl))
    | refine w_skip ?_ | refine w_exit ?_ | refine w_ret ?_
    )
        exact ⟨.inr rfl, by simp only [go_sem, Nat.reduceEqDiff, Nat.reduceAdd, Nat.reduceLeDiff, retOf, resOf]; simp only [newL, if_neg h8, hw, hr, if_true]; first | done | rfl⟩
    · refine ⟨?_, ?_, fun j hj => by omega⟩ <;> simp only [go_sem, Nat.reduceEqDiff, Nat.reduceAdd, Nat.reduceLeDiff]
    · simp only [go_sem, Nat.reduceEqDiff, Nat.reduceAdd, Nat.reduceLeDiff]
    · simp only [go_sem, Nat.reduceEqDiff, Nat.reduceAdd, Nat.reduceLeDiff, hll]
theorem a235 (H : Has la0 env) (G : Has lc env) (L : Has ll0 env) (M : Has lm0 env) (N : Has ln0 env) (O : Has lo env) (P : Has lp env) (R : Has lr env) (U : Has lu env) (W : Has lw env) (B : Bits env)
    (hal : AV env 240 [] = some (.sc (.bool true))) {l : List Lab} (hl : l.length ≤ 9223372036854775807) (n : ByteArray) : AV env 235 [.sl (labs l), .sc (.string n)] = some (.sc (.bool true)) := by
  have h241 := few_g (W (241, d108) (by simp [lw])) hl
  have hk : (fewL l).length ≤ 10 := by rw [fewL_len]; omega
  have hs := fewL_smalls l
  generalize fewL l = k at h241 hk hs
  have h129 := a129 H G O P B (l := k) (by omega) hs
  have h242 := a242 L M R W (l := k) (by omega) hs
  have h202 := a202 H G P U (l := k) (by omega) hs
  have h113 := a113 H G (l := k) (by omega) hs
  have h110 := a110 L M (l := k) (by omega) hs
  have h114 := a114 G (l := k) (n := n) (by omega)
  have h200 := a200 R (l := k) (n := n) (by omega)
  have hnl : (newL k).1.length ≤ 9223372036854775807 := by
    unfold newL
    split
    · simp
    · split
      · simp
      · split
        · rw [sortedL_len]; omega
        · simp
  have h192 := a192 N (a := (newL k).1) (b := (newL k).1) hnl
  rw [show sameL (newL k).1 (newL k).1 = true from by unfold sameL; exact decide_eq_true rfl] at h192
  refine AV_wp (W (235, d235) (by simp [lw])) rfl ?_
  (repeat' first
    | refine w_seq ?_ | refine w_rg ?_ | refine wo_nil ?_ | refine g_skU ?_
    | ((first | apply s_plain | apply s_void | apply s_guard); · simp only [go_sem, Nat.reduceEqDiff, Nat.reduceAdd, Nat.reduceLeDiff, h241, h129, h242, h202, h113, h110, h114, h200, h192, hal]; (first | done | rfl))
    | ((first | apply g_T | apply g_F); · intro hb; simp only [go_sem, Nat.reduceEqDiff, Nat.reduceAdd, Nat.reduceLeDiff, h241, h129, h242, h202, h113, h110, h114, h200, h192, hal, hb]; (first | done | rfl))
    | ((first | apply g_gT | apply g_gF); · intro hb hc; simp only [go_sem, Nat.reduceEqDiff, Nat.reduceAdd, Nat.reduceLeDiff, h241, h129, h242, h202, h113, h110, h114, h200, h192, hal, hb, hc]; (first | done | rfl))
    | refine g_skT ?_ | refine g_skF ?_
    | ((first | apply g_goT | apply g_goF); · simp only [go_sem, Nat.reduceEqDiff, Nat.reduceAdd, Nat.reduceLeDiff, h241, h129, h242, h202, h113, h110, h114, h200, h192, hal]; (first | done | rfl))
    )
  refine w_condF (by simp only [go_sem, Nat.reduceEqDiff, Nat.reduceAdd, Nat.reduceLeDiff]; cases rightL k; simp; simp) ?_
  (repeat' first
    | refine w_seq ?_ | refine w_rg ?_ | refine wo_nil ?_ | refine g_skU ?_
    | ((first | apply s_plain | apply s_void | apply s_guard); · simp only [go_sem, Nat.reduceEqDiff, Nat.reduceAdd, Nat.reduceLeDiff]; (first | done | rfl))
    | ((first | apply g_T | apply g_F); · intro hb; simp only [go_sem, Nat.reduceEqDiff, Nat.reduceAdd, Nat.reduceLeDiff, hb]; (first | done | rfl))
    | ((first | apply g_gT | apply g_gF); · intro hb hc; simp only [go_sem, Nat.reduceEqDiff, Nat.reduceAdd, Nat.reduceLeDiff, hb, hc]; (first | done | rfl))
    | refine g_skT ?_ | refine g_skF ?_
    | ((first | apply g_goT | apply g_goF); · simp only [go_sem, Nat.reduceEqDiff, Nat.reduceAdd, Nat.reduceLeDiff]; (first | done | rfl))
    | (refine w_condT ?_ ?_; · simp only [go_sem, Nat.reduceEqDiff, Nat.reduceAdd, Nat.reduceLeDiff]; (first | done | rfl))
    | (refine w_condF ?_ ?_; · simp only [go_sem, Nat.reduceEqDiff, Nat.reduceAdd, Nat.reduceLeDiff]; (first | done | rfl))
    | refine w_skip ?_ | refine w_exit ?_ | refine w_ret ?_
    )
  (repeat' first
    | refine w_seq ?_ | refine w_rg ?_ | refine wo_nil ?_ | refine g_skU ?_
    | ((first | apply s_plain | apply s_void | apply s_guard); · simp only [go_sem, Nat.reduceEqDiff, Nat.reduceAdd, Nat.reduceLeDiff, h110]; (first | done | rfl))
    | ((first | apply g_T | apply g_F); · intro hb; simp only [go_sem, Nat.reduceEqDiff, Nat.reduceAdd, Nat.reduceLeDiff, h110, hb]; (first | done | rfl))
    | ((first | apply g_gT | apply g_gF); · intro hb hc; simp only [go_sem, Nat.reduceEqDiff, Nat.reduceAdd, Nat.reduceLeDiff, h110, hb, hc]; (first | done | rfl))
    | refine g_skT ?_ | refine g_skF ?_
    | ((first | apply g_goT | apply g_goF); · simp only [go_sem, Nat.reduceEqDiff, Nat.reduceAdd, Nat.reduceLeDiff, h110]; (first | done | rfl))
    )
  cases hr : rightL k with
  | false =>
    (repeat' first
    | refine w_seq ?_ | refine w_rg ?_ | refine wo_nil ?_ | refine g_skU ?_
    | ((first | apply s_plain | apply s_void | apply s_guard); · simp only [go_sem, Nat.reduceEqDiff, Nat.reduceAdd, Nat.reduceLeDiff]; (first | done | rfl))
    | ((first | apply g_T | apply g_F); · intro hb; simp only [go_sem, Nat.reduceEqDiff, Nat.reduceAdd, Nat.reduceLeDiff, hb]; (first | done | rfl))
    | ((first | apply g_gT | apply g_gF); · intro hb hc; simp only [go_sem, Nat.reduceEqDiff, Nat.reduceAdd, Nat.reduceLeDiff, hb, hc]; (first | done | rfl))
    | refine g_skT ?_ | refine g_skF ?_
    | ((first | apply g_goT | apply g_goF); · simp only [go_sem, Nat.reduceEqDiff, Nat.reduceAdd, Nat.reduceLeDiff]; (first | done | rfl))
    | (refine w_condT ?_ ?_; · simp only [go_sem, Nat.reduceEqDiff, Nat.reduceAdd, Nat.reduceLeDiff]; (first | done | rfl))
    | (refine w_condF ?_ ?_; · simp only [go_sem, Nat.reduceEqDiff, Nat.reduceAdd, Nat.reduceLeDiff]; (first | done | rfl))
    | refine w_skip ?_ | refine w_exit ?_ | refine w_ret ?_
    )
    exact ⟨.inr rfl, by simp only [go_sem, Nat.reduceEqDiff, Nat.reduceAdd, Nat.reduceLeDiff, retOf, resOf]; simp⟩
  | true =>
    obtain ⟨hmay, _, h8⟩ := right_iff.1 hr
    have h211 := a211 U (l := k) (fun m hm => may_size (hmay m hm)) h8
    (repeat' first
    | refine w_seq ?_ | refine w_rg ?_ | refine wo_nil ?_ | refine g_skU ?_
    | ((first | apply s_plain | apply s_void | apply s_guard); · simp only [go_sem, Nat.reduceEqDiff, Nat.reduceAdd, Nat.reduceLeDiff, h211]; (first | done | rfl))
    | ((first | apply g_T | apply g_F); · intro hb; simp only [go_sem, Nat.reduceEqDiff, Nat.reduceAdd, Nat.reduceLeDiff, h211, hb]; (first | done | rfl))
    | ((first | apply g_gT | apply g_gF); · intro hb hc; simp only [go_sem, Nat.reduceEqDiff, Nat.reduceAdd, Nat.reduceLeDiff, h211, hb, hc]; (first | done | rfl))
    | refine g_skT ?_ | refine g_skF ?_
    | ((first | apply g_goT | apply g_goF); · simp only [go_sem, Nat.reduceEqDiff, Nat.reduceAdd, Nat.reduceLeDiff, h211]; (first | done | rfl))
    | (refine w_condT ?_ ?_; · simp only [go_sem, Nat.reduceEqDiff, Nat.reduceAdd, Nat.reduceLeDiff, h211]; (first | done | rfl))
    | (refine w_condF ?_ ?_; · simp only [go_sem, Nat.reduceEqDiff, Nat.reduceAdd, Nat.reduceLeDiff, h211]; (first | done | rfl))
    | refine w_skip ?_ | refine w_exit ?_ | refine w_ret ?_
    )
    exact ⟨.inr rfl, by simp only [go_sem, Nat.reduceEqDiff, Nat.reduceAdd, Nat.reduceLeDiff, retOf, resOf]; simp⟩
end
end Go.Proofs.YtjijlmfhnkipmaaDoorPv
namespace Go.Proofs.YtjijlmfhnkipmaaDoorPv
open Go
set_option linter.unusedSimpArgs false
set_option linter.unusedVariables false
set_option maxHeartbeats 4000000
attribute [local go_sem ↓] e_mv e_pick e_bin e_eqs e_beq e_un e_cvi e_str e_s2b e_b2s e_box e_build e_bsl e_ld e_st e_nck e_mkf e_slcS e_slcL e_fa e_fld e_ia e_iaa e_ix e_ixa e_ext e_lenS e_lenL e_mnmx e_app e_appb e_bbx e_msl e_clr e_call e_callv pa_t pa_c pa_f slcSP_str hiOf_some hiOf_none loOf_some loOf_none set_eq set_ne
attribute [local go_sem] pv pv1 simple frOf_0 frOf_1 frOf_2 frOf_3 frOf_4 frOf_5 ne_eq not_false_eq_true if_true Bool.false_eq_true if_false pbin punary Option.map_some Option.bind_some pick_and pick_or opt_true Bool.true_and Bool.and_self Bool.and_true Bool.true_or Bool.false_or Bool.not_true Bool.not_false callE pcall_eq List.map_cons List.map_nil List.append_nil List.nil_append List.cons_append mapM_cons' mapM_nil' dep_eq fz_sc fz_sl fz_em fz_fn fz_fp fz_agg fz_bx fz_ob Nat.lt_irrefl Nat.zero_lt_one Nat.lt_add_one flat clL cl Bool.or_true okc cells_agg cells_sc cells_sl cells_em cells_ob cells_fn cells_bx cells_fp List.length_cons List.length_nil Nat.zero_add and_self true_and and_true new_m new_c put_m put_c nil_m nil_c deref List.getElem?_cons_zero List.getElem?_cons_succ List.drop_zero List.drop_succ_cons List.take_succ_cons List.take_zero Nat.le_refl false_and and_false
set_option maxRecDepth 8000
/-- slices.Index[[]string,string] -/
def d37 : Def := (.code 2 [.tmp 4] (.seq (.rg false [⟨.some 4, .none, .mv (.c (.int .i64 0))⟩]) (.seq (.seq (.rg false [⟨.some 6, .none, .mv (.t 0)⟩, ⟨.some 7, .none, .lenL (.t 6)⟩, ⟨.some 8, .none, .mv (.c (.int .i64 0))⟩]) (.block 0 (.loop (.seq (.rg false [⟨.some 9, .none, .bin .lss (.t 8) (.t 7)⟩]) (.seq (.cond (.t 9) .skip (.exit 0)) (.seq (.block 1 (.seq (.rg false [⟨.some 10, .none, .mv (.t 8)⟩, ⟨.some 5, .none, .mv (.t 10)⟩]) (.seq (.rg false [⟨.some 11, .none, .mv (.t 1)⟩, ⟨.some 12, .none, .mv (.t 0)⟩, ⟨.some 13, .none, .mv (.t 5)⟩, ⟨.some 14, .none, .ia 1 (.t 12) (.t 13)⟩, ⟨.some 15, .none, .ld .none (.t 14)⟩, ⟨.some 16, .none, .bin .eql (.t 11) (.t 15)⟩]) (.cond (.t 16) (.seq (.rg false [⟨.some 17, .none, .mv (.t 5)⟩, ⟨.some 4, .none, .mv (.t 17)⟩]) .ret) .skip)))) (.rg false [⟨.some 18, .none, .bin .add (.t 8) (.c (.int .i64 1))⟩, ⟨.some 8, .none, .mv (.t 18)⟩]))))))) (.seq (.rg false [⟨.some 4, .none, .mv (.c (.int .i64 (-1)))⟩]) .ret))))
/-- slices.Contains[[]string,string] -/
def d50 : Def := (.code 2 [.tmp 4] (.seq (.rg false [⟨.some 4, .none, .mv (.c (.bool false))⟩]) (.seq (.rg false [⟨.some 5, .none, .mv (.t 0)⟩, ⟨.some 6, .none, .mv (.t 1)⟩, ⟨.some 7, .none, .call 37 .pure [.t 5, .t 6]⟩, ⟨.some 8, .none, .bin .geq (.t 7) (.c (.int .i64 0))⟩, ⟨.some 4, .none, .mv (.t 8)⟩]) .ret)))
/-- transhipment/label.Keep$1 -/
def d247 : Def := (.code 2 [.tmp 3] (.seq (.rg false [⟨.some 2, .none, .box (.t 0)⟩, ⟨.some 3, .none, .mv (.c (.bool false))⟩]) (.seq (.rg false [⟨.some 4, .none, .ld .none (.t 1)⟩, ⟨.some 5, .none, .fa 0 (.t 2)⟩, ⟨.some 6, .none, .ld .none (.t 5)⟩, ⟨.some 7, .none, .call 50 .pure [.t 4, .t 6]⟩, ⟨.some 8, .none, .un .not (.t 7)⟩, ⟨.some 3, .none, .mv (.t 8)⟩]) .ret)))
/-- transhipment/transhipmentlaw03.names -/
def d243 : Def := (.code 1 [.tmp 2] (.seq (.rg false [⟨.some 2, .none, .mv (.c (.slice .none 0 0))⟩]) (.seq (.rg false [⟨.some 3, .none, .mv (.c (.slice .none 0 0))⟩]) (.seq (.seq (.rg false [⟨.some 6, .none, .mv (.t 0)⟩, ⟨.some 7, .none, .mv (.t 0)⟩, ⟨.some 8, .none, .lenL (.t 7)⟩, ⟨.some 9, .none, .mnmx false [.t 8, .c (.int .i64 10)]⟩, ⟨.some 10, .none, .slcL 1 (.t 6) .none (.some (.t 9))⟩, ⟨.some 11, .none, .lenL (.t 10)⟩, ⟨.some 12, .none, .mv (.c (.int .i64 0))⟩]) (.block 0 (.loop (.seq (.rg false [⟨.some 13, .none, .bin .lss (.t 12) (.t 11)⟩]) (.seq (.cond (.t 13) .skip (.exit 0)) (.seq (.block 1 (.seq (.rg false [⟨.some 14, .none, .ia 1 (.t 10) (.t 12)⟩, ⟨.some 15, .none, .ld .none (.t 14)⟩, ⟨.some 5, .none, .mv (.t 15)⟩]) (.rg false [⟨.some 16, .none, .mv (.t 3)⟩, ⟨.some 17, .none, .mv (.t 5)⟩, ⟨.some 18, .none, .mv (.t 5)⟩, ⟨.some 19, .none, .lenS (.t 18)⟩, ⟨.some 20, .none, .mnmx false [.t 19, .c (.int .i64 70)]⟩, ⟨.some 21, .none, .slcS (.t 17) .none (.some (.t 20))⟩, ⟨.some 22, .none, .bsl 1 (.string ⟨#[]⟩) 1 [(0, .t 21)]⟩, ⟨.some 23, .none, .app 1 16 false (.t 16) (.t 22)⟩, ⟨.some 3, .none, .mv (.t 23)⟩]))) (.rg false [⟨.some 24, .none, .bin .add (.t 12) (.c (.int .i64 1))⟩, ⟨.some 12, .none, .mv (.t 24)⟩]))))))) (.seq (.rg false [⟨.some 25, .none, .mv (.t 3)⟩, ⟨.some 2, .none, .mv (.t 25)⟩]) .ret)))))
/-- transhipment/transhipmentref03.Keep -/
def d245 : Def := (.code 2 [.tmp 4] (.seq (.rg false [⟨.some 4, .none, .mv (.c (.slice .none 0 0))⟩]) (.seq (.rg false [⟨.some 11, .none, .mv (.c (.slice .none 0 0))⟩, ⟨.some 5, .none, .mv (.t 11)⟩]) (.seq (.seq (.rg false [⟨.some 12, .none, .mv (.t 0)⟩, ⟨.some 13, .none, .lenL (.t 12)⟩, ⟨.some 14, .none, .mv (.c (.int .i64 0))⟩]) (.block 0 (.loop (.seq (.rg false [⟨.some 15, .none, .bin .lss (.t 14) (.t 13)⟩]) (.seq (.cond (.t 15) .skip (.exit 0)) (.seq (.block 1 (.seq (.rg false [⟨.some 16, .none, .ia 2 (.t 12) (.t 14)⟩, ⟨.some 17, .none, .ld (.some 2) (.t 16)⟩, ⟨.some 7, .none, .box (.c (.agg #[.string ⟨#[]⟩, .string ⟨#[]⟩]))⟩, ⟨.none, .none, .st 2 (.t 7) (.t 17)⟩]) (.seq (.rg false [⟨.some 8, .none, .mv (.c (.bool false))⟩]) (.seq (.seq (.rg false [⟨.some 18, .none, .mv (.t 1)⟩, ⟨.some 19, .none, .lenL (.t 18)⟩, ⟨.some 20, .none, .mv (.c (.int .i64 0))⟩]) (.block 2 (.loop (.seq (.rg false [⟨.some 21, .none, .bin .lss (.t 20) (.t 19)⟩]) (.seq (.cond (.t 21) .skip (.exit 2)) (.seq (.block 3 (.seq (.rg false [⟨.some 22, .none, .ia 1 (.t 18) (.t 20)⟩, ⟨.some 23, .none, .ld .none (.t 22)⟩, ⟨.some 10, .none, .mv (.t 23)⟩]) (.rg false [⟨.some 24, .none, .mv (.t 8)⟩, ⟨.some 25, .none, .mv (.t 24)⟩, ⟨.some 26, .some (25, false), .mv (.t 10)⟩, ⟨.some 27, .some (25, false), .fa 0 (.t 7)⟩, ⟨.some 28, .some (25, false), .ld .none (.t 27)⟩, ⟨.some 29, .some (25, false), .bin .eql (.t 26) (.t 28)⟩, ⟨.some 30, .none, .pick (.t 25) (.c (.bool true)) (.t 29)⟩, ⟨.some 8, .none, .mv (.t 30)⟩]))) (.rg false [⟨.some 31, .none, .bin .add (.t 20) (.c (.int .i64 1))⟩, ⟨.some 20, .none, .mv (.t 31)⟩]))))))) (.seq (.rg false [⟨.some 32, .none, .mv (.t 8)⟩]) (.cond (.t 32) (.rg false [⟨.some 33, .none, .mv (.t 5)⟩, ⟨.some 34, .none, .ld (.some 2) (.t 7)⟩, ⟨.some 35, .none, .bsl 2 (.agg #[.string ⟨#[]⟩, .string ⟨#[]⟩]) 1 [(0, .t 34)]⟩, ⟨.some 36, .none, .app 2 32 false (.t 33) (.t 35)⟩, ⟨.some 5, .none, .mv (.t 36)⟩]) .skip)))))) (.rg false [⟨.some 37, .none, .bin .add (.t 14) (.c (.int .i64 1))⟩, ⟨.some 14, .none, .mv (.t 37)⟩]))))))) (.seq (.rg false [⟨.some 38, .none, .mv (.t 5)⟩, ⟨.some 4, .none, .mv (.t 38)⟩]) .ret)))))
def lx : List (Nat × Def) := [(37, d37), (50, d50), (247, d247), (243, d243), (245, d245)]
section
variable {env : Nat → Option Def} {fr : Fr} {σ σ' : St} {K : Fr → St → Prop} {Q : X → Fr → St → Prop}
def strs (l : List ByteArray) : List PV := l.map fun s => .sc (.string s)
theorem strs_len (l : List ByteArray) : (strs l).length = l.length := by simp [strs]
theorem strs_at {l : List ByteArray} {i : Nat} {s : ByteArray} (h : l[i]? = some s) : (strs l)[i]? = some (.sc (.string s)) := by simp [strs, h]
theorem strs_fz (σ : St) (l : List ByteArray) : (strs l).mapM (fz σ 11) = some (strs l) := by
  induction l with
  | nil => rfl
  | cons m r ih =>
    show List.mapM (fz σ 11) (.sc (.string m) :: strs r) = _
    rw [mapM_cons', ih]
    rfl
def nthS (l : List ByteArray) (i : Nat) : ByteArray := l[i]?.getD ⟨#[]⟩
theorem nthS_eq {l : List ByteArray} {i : Nat} (hi : i < l.length) : nthS l i = l[i] := by unfold nthS; rw [List.getElem?_eq_getElem hi]; rfl
def isS (l : List ByteArray) (s : ByteArray) (i : Nat) : Bool := s.toList == (nthS l i).toList
def hasN (l : List ByteArray) (s : ByteArray) : Bool := decide (found (isS l s) l.length ≥ 0)
theorem a37 (X : Has lx env) {l : List ByteArray} (hn : l.length ≤ 9223372036854775807) (s : ByteArray) : AV env 37 [.sl (strs l), .sc (.string s)] = some (.sc (.int .i64 (found (isS l s) l.length))) := by
  refine AV_wp (X (37, d37) (by simp [lx])) rfl ?_
  have hll := strs_len l
  (repeat' first
    | refine w_seq ?_ | refine w_rg ?_ | refine wo_nil ?_ | refine g_skU ?_
    | ((first | apply s_plain | apply s_void | apply s_guard); · simp only [go_sem, Nat.reduceEqDiff, Nat.reduceAdd, Nat.reduceLeDiff, hll]; (first | done | rfl))
    | ((first | apply g_T | apply g_F); · intro hb; simp only [go_sem, Nat.reduceEqDiff, Nat.reduceAdd, Nat.reduceLeDiff, hll, hb]; (first | done | rfl))
    | ((first | apply g_gT | apply g_gF); · intro hb hc; simp only [go_sem, Nat.reduceEqDiff, Nat.reduceAdd, Nat.reduceLeDiff, hll, hb, hc]; (first | done | rfl))
    | refine g_skT ?_ | refine g_skF ?_
    | ((first | apply g_goT | apply g_goF); · simp only [go_sem, Nat.reduceEqDiff, Nat.reduceAdd, Nat.reduceLeDiff, hll]; (first | done | rfl))
    )
  refine w_block (w_range l.length hn (fun i fr σ => fr 0 = .sl (strs l) ∧ fr 1 = .sc (.string s) ∧ ∀ j, j < i → isS l s j = false) (by decide) ?_ ?_ ?_ _ _ ?_ ?_ ?_)
  · rintro i fr σ v ⟨h0, h1, h2⟩
    refine ⟨⟨?_, ?_, h2⟩, ⟨?_, ?_, h2⟩, ⟨?_, ?_, h2⟩⟩ <;> simp only [go_sem, Nat.reduceEqDiff, Nat.reduceAdd, Nat.reduceLeDiff, h0, h1]
  · rintro i fr σ hi ⟨h0, h1, h3⟩ hti htn
    have hy := strs_at (List.getElem?_eq_getElem hi)
    have hni := nthS_eq hi
    have e1 : (0 : Int) ≤ (i : Int) ∧ (i : Int) < (l.length : Int) := by omega
    refine w_block ?_
    (repeat' first
    | refine w_seq ?_ | refine w_rg ?_ | refine wo_nil ?_ | refine g_skU ?_
    | ((first | apply s_plain | apply s_void | apply s_guard); · simp only [go_sem, Nat.reduceEqDiff, Nat.reduceAdd, Nat.reduceLeDiff, h0, h1, hti, e1, hll, Int.toNat_natCast, hy]; (first | done | rfl))
    | ((first | apply g_T | apply g_F); · intro hb; simp only [go_sem, Nat.reduceEqDiff, Nat.reduceAdd, Nat.reduceLeDiff, h0, h1, hti, e1, hll, Int.toNat_natCast, hy, hb]; (first | done | rfl))
    | ((first | apply g_gT | apply g_gF); · intro hb hc; simp only [go_sem, Nat.reduceEqDiff, Nat.reduceAdd, Nat.reduceLeDiff, h0, h1, hti, e1, hll, Int.toNat_natCast, hy, hb, hc]; (first | done | rfl))
    | refine g_skT ?_ | refine g_skF ?_
    | ((first | apply g_goT | apply g_goF); · simp only [go_sem, Nat.reduceEqDiff, Nat.reduceAdd, Nat.reduceLeDiff, h0, h1, hti, e1, hll, Int.toNat_natCast, hy]; (first | done | rfl))
    )
    have hbad : isS l s i = (s.toList == l[i].toList) := by unfold isS; rw [hni]
    rw [← hbad]
    cases hpi : isS l s i with
    | true =>
      (repeat' first
    | refine w_seq ?_ | refine w_rg ?_ | refine wo_nil ?_ | refine g_skU ?_
    | ((first | apply s_plain | apply s_void | apply s_guard); · simp only [go_sem, Nat.reduceEqDiff, Nat.reduceAdd, Nat.reduceLeDiff]; (first | done | rfl))
    | ((first | apply g_T | apply g_F); · intro hb; simp only [go_sem, Nat.reduceEqDiff, Nat.reduceAdd, Nat.reduceLeDiff, hb]; (first | done | rfl))
    | ((first | apply g_gT | apply g_gF); · intro hb hc; simp only [go_sem, Nat.reduceEqDiff, Nat.reduceAdd, Nat.reduceLeDiff, hb, hc]; (first | done | rfl))
    | refine g_skT ?_ | refine g_skF ?_
    | ((first | apply g_goT | apply g_goF); · simp only [go_sem, Nat.reduceEqDiff, Nat.reduceAdd, Nat.reduceLeDiff]; (first | done | rfl))
    | (refine w_condT ?_ ?_; · simp only [go_sem, Nat.reduceEqDiff, Nat.reduceAdd, Nat.reduceLeDiff]; (first | done | rfl))
    | (refine w_condF ?_ ?_; · simp only [go_sem, Nat.reduceEqDiff, Nat.reduceAdd, Nat.reduceLeDiff]; (first | done | rfl))
    | refine w_skip ?_ | refine w_exit ?_ | refine w_ret ?_
    )
      exact ⟨.inr rfl, by simp only [go_sem, Nat.reduceEqDiff, Nat.reduceAdd, Nat.reduceLeDiff, retOf, resOf, found_hit hi h3 hpi]⟩
    | false =>
      (repeat' first
    | refine w_seq ?_ | refine w_rg ?_ | refine wo_nil ?_ | refine g_skU ?_
    | ((first | apply s_plain | apply s_void | apply s_guard); · simp only [go_sem, Nat.reduceEqDiff, Nat.reduceAdd, Nat.reduceLeDiff]; (first | done | rfl))
    | ((first | apply g_T | apply g_F); · intro hb; simp only [go_sem, Nat.reduceEqDiff, Nat.reduceAdd, Nat.reduceLeDiff, hb]; (first | done | rfl))
    | ((first | apply g_gT | apply g_gF); · intro hb hc; simp only [go_sem, Nat.reduceEqDiff, Nat.reduceAdd, Nat.reduceLeDiff, hb, hc]; (first | done | rfl))
    | refine g_skT ?_ | refine g_skF ?_
    | ((first | apply g_goT | apply g_goF); · simp only [go_sem, Nat.reduceEqDiff, Nat.reduceAdd, Nat.reduceLeDiff]; (first | done | rfl))
    | (refine w_condT ?_ ?_; · simp only [go_sem, Nat.reduceEqDiff, Nat.reduceAdd, Nat.reduceLeDiff]; (first | done | rfl))
    | (refine w_condF ?_ ?_; · simp only [go_sem, Nat.reduceEqDiff, Nat.reduceAdd, Nat.reduceLeDiff]; (first | done | rfl))
    | refine w_skip ?_ | refine w_exit ?_ | refine w_ret ?_
    )
      refine ⟨⟨?_, ?_, fun j hj => ?_⟩, ?_, ?_⟩
      · simp only [go_sem, Nat.reduceEqDiff, Nat.reduceAdd, Nat.reduceLeDiff, h0]
      · simp only [go_sem, Nat.reduceEqDiff, Nat.reduceAdd, Nat.reduceLeDiff, h1]
      · by_cases hji : j = i
        · rw [hji]; exact hpi
        · exact h3 j (by omega)
      · simp only [go_sem, Nat.reduceEqDiff, Nat.reduceAdd, Nat.reduceLeDiff, hti]
      · simp only [go_sem, Nat.reduceEqDiff, Nat.reduceAdd, Nat.reduceLeDiff, htn]
  · rintro fr σ ⟨h0, h1, h3⟩
    try simp only [if_true]
    (repeat' first
    | refine w_seq ?_ | refine w_rg ?_ | refine wo_nil ?_ | refine g_skU ?_
    | ((first | apply s_plain | apply s_void | apply s_guard); · simp only [go_sem, Nat.reduceEqDiff, Nat.reduceAdd, Nat.reduceLeDiff]; (first | done | rfl))
    | ((first | apply g_T | apply g_F); · intro hb; simp only [go_sem, Nat.reduceEqDiff, Nat.reduceAdd, Nat.reduceLeDiff, hb]; (first | done | rfl))
    | ((first | apply g_gT | apply g_gF); · intro hb hc; simp only [go_sem, Nat.reduceEqDiff, Nat.reduceAdd, Nat.reduceLeDiff, hb, hc]; (first | done | rfl))
    | refine g_skT ?_ | refine g_skF ?_
    | ((first | apply g_goT | apply g_goF); · simp only [go_sem, Nat.reduceEqDiff, Nat.reduceAdd, Nat.reduceLeDiff]; (first | done | rfl))
    | (refine w_condT ?_ ?_; · simp only [go_sem, Nat.reduceEqDiff, Nat.reduceAdd, Nat.reduceLeDiff]; (first | done | rfl))
    | (refine w_condF ?_ ?_; · simp only [go_sem, Nat.reduceEqDiff, Nat.reduceAdd, Nat.reduceLeDiff]; (first | done | rfl))
    | refine w_skip ?_ | refine w_exit ?_ | refine w_ret ?_
    )
    exact ⟨.inr rfl, by simp only [go_sem, Nat.reduceEqDiff, Nat.reduceAdd, Nat.reduceLeDiff, retOf, resOf, found_none h3]⟩
  · refine ⟨?_, ?_, fun j hj => by omega⟩ <;> simp only [go_sem, Nat.reduceEqDiff, Nat.reduceAdd, Nat.reduceLeDiff]
  · simp only [go_sem, Nat.reduceEqDiff, Nat.reduceAdd, Nat.reduceLeDiff]
  · simp only [go_sem, Nat.reduceEqDiff, Nat.reduceAdd, Nat.reduceLeDiff, hll]
theorem a50 (X : Has lx env) {l : List ByteArray} (hn : l.length ≤ 9223372036854775807) (s : ByteArray) : AV env 50 [.sl (strs l), .sc (.string s)] = some (.sc (.bool (hasN l s))) := by
  have h := a37 X hn s
  refine AV_wp (X (50, d50) (by simp [lx])) rfl ?_
  (repeat' first
    | refine w_seq ?_ | refine w_rg ?_ | refine wo_nil ?_ | refine g_skU ?_
    | ((first | apply s_plain | apply s_void | apply s_guard); · simp only [go_sem, Nat.reduceEqDiff, Nat.reduceAdd, Nat.reduceLeDiff, h]; (first | done | rfl))
    | ((first | apply g_T | apply g_F); · intro hb; simp only [go_sem, Nat.reduceEqDiff, Nat.reduceAdd, Nat.reduceLeDiff, h, hb]; (first | done | rfl))
    | ((first | apply g_gT | apply g_gF); · intro hb hc; simp only [go_sem, Nat.reduceEqDiff, Nat.reduceAdd, Nat.reduceLeDiff, h, hb, hc]; (first | done | rfl))
    | refine g_skT ?_ | refine g_skF ?_
    | ((first | apply g_goT | apply g_goF); · simp only [go_sem, Nat.reduceEqDiff, Nat.reduceAdd, Nat.reduceLeDiff, h]; (first | done | rfl))
    | (refine w_condT ?_ ?_; · simp only [go_sem, Nat.reduceEqDiff, Nat.reduceAdd, Nat.reduceLeDiff, h]; (first | done | rfl))
    | (refine w_condF ?_ ?_; · simp only [go_sem, Nat.reduceEqDiff, Nat.reduceAdd, Nat.reduceLeDiff, h]; (first | done | rfl))
    | refine w_skip ?_ | refine w_exit ?_ | refine w_ret ?_
    )
  exact ⟨.inr rfl, by simp only [go_sem, Nat.reduceEqDiff, Nat.reduceAdd, Nat.reduceLeDiff, retOf, resOf]; rfl⟩
theorem a247 (X : Has lx env) {l : List ByteArray} (hn : l.length ≤ 9223372036854775807) (m : Lab) : AV env 247 [lab m, .fp [.sl (strs l)] 0 0] = some (.sc (.bool (!hasN l m.1))) := by
  have h := a50 X hn m.1
  refine AV_wp (X (247, d247) (by simp [lx])) rfl ?_
  unfold lab
  (repeat' first
    | refine w_seq ?_ | refine w_rg ?_ | refine wo_nil ?_ | refine g_skU ?_
    | ((first | apply s_plain | apply s_void | apply s_guard); · simp only [go_sem, Nat.reduceEqDiff, Nat.reduceAdd, Nat.reduceLeDiff, h]; (first | done | rfl))
    | ((first | apply g_T | apply g_F); · intro hb; simp only [go_sem, Nat.reduceEqDiff, Nat.reduceAdd, Nat.reduceLeDiff, h, hb]; (first | done | rfl))
    | ((first | apply g_gT | apply g_gF); · intro hb hc; simp only [go_sem, Nat.reduceEqDiff, Nat.reduceAdd, Nat.reduceLeDiff, h, hb, hc]; (first | done | rfl))
    | refine g_skT ?_ | refine g_skF ?_
    | ((first | apply g_goT | apply g_goF); · simp only [go_sem, Nat.reduceEqDiff, Nat.reduceAdd, Nat.reduceLeDiff, h]; (first | done | rfl))
    | (refine w_condT ?_ ?_; · simp only [go_sem, Nat.reduceEqDiff, Nat.reduceAdd, Nat.reduceLeDiff, h]; (first | done | rfl))
    | (refine w_condF ?_ ?_; · simp only [go_sem, Nat.reduceEqDiff, Nat.reduceAdd, Nat.reduceLeDiff, h]; (first | done | rfl))
    | refine w_skip ?_ | refine w_exit ?_ | refine w_ret ?_
    )
  exact ⟨.inr rfl, by simp only [go_sem, Nat.reduceEqDiff, Nat.reduceAdd, Nat.reduceLeDiff, retOf, resOf]⟩
def cutN (l : List ByteArray) : List ByteArray := (l.take (min l.length 10)).map (cutS 70)
theorem cutN_len (l : List ByteArray) : (cutN l).length = min l.length 10 := by simp [cutN]
theorem a243 (X : Has lx env) {l : List ByteArray} (hn : l.length ≤ 9223372036854775807) : AV env 243 [.sl (strs l)] = some (.sl (strs (cutN l))) := by
  refine AV_wp (X (243, d243) (by simp [lx])) rfl ?_
  have hll := strs_len l
  have hall : (strs l).all (fun x => (cellsOf x).length == 1) = true := by
    rw [List.all_eq_true]
    intro x hx
    simp only [strs, List.mem_map] at hx
    obtain ⟨m, _, rfl⟩ := hx
    rfl
  (repeat' first
    | refine w_seq ?_ | refine w_rg ?_ | refine wo_nil ?_ | refine g_skU ?_
    | ((first | apply s_plain | apply s_void | apply s_guard); · simp only [go_sem, Nat.reduceEqDiff, Nat.reduceAdd, Nat.reduceLeDiff, hll, mn2]; (first | done | rfl))
    | ((first | apply g_T | apply g_F); · intro hb; simp only [go_sem, Nat.reduceEqDiff, Nat.reduceAdd, Nat.reduceLeDiff, hll, mn2, hb]; (first | done | rfl))
    | ((first | apply g_gT | apply g_gF); · intro hb hc; simp only [go_sem, Nat.reduceEqDiff, Nat.reduceAdd, Nat.reduceLeDiff, hll, mn2, hb, hc]; (first | done | rfl))
    | refine g_skT ?_ | refine g_skF ?_
    | ((first | apply g_goT | apply g_goF); · simp only [go_sem, Nat.reduceEqDiff, Nat.reduceAdd, Nat.reduceLeDiff, hll, mn2]; (first | done | rfl))
    )
  refine s_plain (v := .sl ((strs l).take (min l.length 10))) (σ' := St.nil) (by
    simp only [↓e_slcL]
    have h6 : pa _ (.t 6) = .sl (strs l) := (by simp only [go_sem, Nat.reduceEqDiff, Nat.reduceAdd, Nat.reduceLeDiff] : pa ((((((((frOf [PV.sl (strs l)]).set 2 PV.em).set 3 PV.em).set 6 (PV.sl (strs l))).set 7 (PV.sl (strs l))).set 8 (PV.sc (Value.int IntKind.i64 l.length))).set 9 (PV.sc (Value.int IntKind.i64 (min (l.length : Int) 10))))) (.t 6) = .sl (strs l))
    rw [h6, slcL_cut _ 9 10 1 (strs l) hall (by simp only [go_sem, Nat.reduceEqDiff, Nat.reduceAdd, Nat.reduceLeDiff, hll]; rfl), hll]
    rfl) ?_
  have hlt : ((strs l).take (min l.length 10)).length = min l.length 10 := by rw [List.length_take, hll]; omega
  (repeat' first
    | refine w_seq ?_ | refine w_rg ?_ | refine wo_nil ?_ | refine g_skU ?_
    | ((first | apply s_plain | apply s_void | apply s_guard); · simp only [go_sem, Nat.reduceEqDiff, Nat.reduceAdd, Nat.reduceLeDiff, hlt]; (first | done | rfl))
    | ((first | apply g_T | apply g_F); · intro hb; simp only [go_sem, Nat.reduceEqDiff, Nat.reduceAdd, Nat.reduceLeDiff, hlt, hb]; (first | done | rfl))
    | ((first | apply g_gT | apply g_gF); · intro hb hc; simp only [go_sem, Nat.reduceEqDiff, Nat.reduceAdd, Nat.reduceLeDiff, hlt, hb, hc]; (first | done | rfl))
    | refine g_skT ?_ | refine g_skF ?_
    | ((first | apply g_goT | apply g_goF); · simp only [go_sem, Nat.reduceEqDiff, Nat.reduceAdd, Nat.reduceLeDiff, hlt]; (first | done | rfl))
    )
  refine w_block (w_range (min l.length 10) (by omega) (fun i fr σ => fr 10 = .sl ((strs l).take (min l.length 10)) ∧ Gat σ [23] 1 false (fr 3) ((strs (cutN l)).take i)) (by decide) ?_ ?_ ?_ _ _ ?_ ?_ ?_)
  · rintro i fr σ v ⟨h0, h1⟩
    refine ⟨⟨?_, ?_⟩, ⟨?_, ?_⟩, ⟨?_, ?_⟩⟩ <;> simp only [go_sem, Nat.reduceEqDiff, Nat.reduceAdd, Nat.reduceLeDiff, h0, h1]
  · rintro i fr σ hi ⟨h10, hg⟩ hti htn
    have hil : i < l.length := by omega
    have hx : ((strs l).take (min l.length 10))[i]? = some (.sc (.string l[i])) := by
      rw [List.getElem?_take, if_pos hi]
      exact strs_at (List.getElem?_eq_getElem hil)
    have e1 : (0 : Int) ≤ (i : Int) ∧ (i : Int) < ((min l.length 10 : Nat) : Int) := by omega
    refine w_block ?_
    have b70 : ∀ (n : Nat) (k : IntKind), bound n (.sc (.int k (min (n : Int) 70))) = some (min n 70) := fun n k => bound_min rfl
    (repeat' first
    | refine w_seq ?_ | refine w_rg ?_ | refine wo_nil ?_ | refine g_skU ?_
    | ((first | apply s_plain | apply s_void | apply s_guard); · simp only [go_sem, Nat.reduceEqDiff, Nat.reduceAdd, Nat.reduceLeDiff, h10, hti, e1, hlt, Int.toNat_natCast, hx, mn2, b70, fillE, List.replicate_succ, List.replicate_zero, List.set_cons_zero]; (first | done | rfl))
    | ((first | apply g_T | apply g_F); · intro hb; simp only [go_sem, Nat.reduceEqDiff, Nat.reduceAdd, Nat.reduceLeDiff, h10, hti, e1, hlt, Int.toNat_natCast, hx, mn2, b70, fillE, List.replicate_succ, List.replicate_zero, List.set_cons_zero, hb]; (first | done | rfl))
    | ((first | apply g_gT | apply g_gF); · intro hb hc; simp only [go_sem, Nat.reduceEqDiff, Nat.reduceAdd, Nat.reduceLeDiff, h10, hti, e1, hlt, Int.toNat_natCast, hx, mn2, b70, fillE, List.replicate_succ, List.replicate_zero, List.set_cons_zero, hb, hc]; (first | done | rfl))
    | refine g_skT ?_ | refine g_skF ?_
    | ((first | apply g_goT | apply g_goF); · simp only [go_sem, Nat.reduceEqDiff, Nat.reduceAdd, Nat.reduceLeDiff, h10, hti, e1, hlt, Int.toNat_natCast, hx, mn2, b70, fillE, List.replicate_succ, List.replicate_zero, List.set_cons_zero]; (first | done | rfl))
    )
    have hL : (strs (cutN l)).take (i + 1) = (strs (cutN l)).take i ++ [.sc (.string (cutS 70 l[i]))] := by
      have hlen : i < (strs (cutN l)).length := by rw [strs_len, cutN_len]; exact hi
      rw [List.take_succ_eq_append_getElem hlen]
      congr 1
      simp [strs, cutN]
    have hlen : ((strs (cutN l)).take i).length ≤ 10 := by rw [List.length_take]; omega
    refine s_gatL (os := [23]) (ys := [.sc (.string (cutS 70 l[i]))]) (by simp only [go_sem, Nat.reduceEqDiff, Nat.reduceAdd, Nat.reduceLeDiff]; exact hg.new _) (by simp only [go_sem, Nat.reduceEqDiff, Nat.reduceAdd, Nat.reduceLeDiff, srcOf, elemsOf]; first | done | rfl) rfl (by simp only [List.length_cons, List.length_nil]; omega) ?_
    intro p σ' hg2 _
    rw [← hL] at hg2
    (repeat' first
    | refine w_seq ?_ | refine w_rg ?_ | refine wo_nil ?_ | refine g_skU ?_
    | ((first | apply s_plain | apply s_void | apply s_guard); · simp only [go_sem, Nat.reduceEqDiff, Nat.reduceAdd, Nat.reduceLeDiff]; (first | done | rfl))
    | ((first | apply g_T | apply g_F); · intro hb; simp only [go_sem, Nat.reduceEqDiff, Nat.reduceAdd, Nat.reduceLeDiff, hb]; (first | done | rfl))
    | ((first | apply g_gT | apply g_gF); · intro hb hc; simp only [go_sem, Nat.reduceEqDiff, Nat.reduceAdd, Nat.reduceLeDiff, hb, hc]; (first | done | rfl))
    | refine g_skT ?_ | refine g_skF ?_
    | ((first | apply g_goT | apply g_goF); · simp only [go_sem, Nat.reduceEqDiff, Nat.reduceAdd, Nat.reduceLeDiff]; (first | done | rfl))
    )
    refine ⟨⟨?_, ?_⟩, ?_, ?_⟩
    · simp only [go_sem, Nat.reduceEqDiff, Nat.reduceAdd, Nat.reduceLeDiff, h10]
    · simp only [go_sem, Nat.reduceEqDiff, Nat.reduceAdd, Nat.reduceLeDiff]; exact hg2
    · simp only [go_sem, Nat.reduceEqDiff, Nat.reduceAdd, Nat.reduceLeDiff, hti]
    · simp only [go_sem, Nat.reduceEqDiff, Nat.reduceAdd, Nat.reduceLeDiff, htn]
  · rintro fr σ ⟨h10, hg⟩
    try simp only [if_true]
    rw [List.take_of_length_le (by rw [strs_len, cutN_len]; exact Nat.le_refl _)] at hg
    have hfz := hg.fz (strs_fz σ _)
    (repeat' first
    | refine w_seq ?_ | refine w_rg ?_ | refine wo_nil ?_ | refine g_skU ?_
    | ((first | apply s_plain | apply s_void | apply s_guard); · simp only [go_sem, Nat.reduceEqDiff, Nat.reduceAdd, Nat.reduceLeDiff]; (first | done | rfl))
    | ((first | apply g_T | apply g_F); · intro hb; simp only [go_sem, Nat.reduceEqDiff, Nat.reduceAdd, Nat.reduceLeDiff, hb]; (first | done | rfl))
    | ((first | apply g_gT | apply g_gF); · intro hb hc; simp only [go_sem, Nat.reduceEqDiff, Nat.reduceAdd, Nat.reduceLeDiff, hb, hc]; (first | done | rfl))
    | refine g_skT ?_ | refine g_skF ?_
    | ((first | apply g_goT | apply g_goF); · simp only [go_sem, Nat.reduceEqDiff, Nat.reduceAdd, Nat.reduceLeDiff]; (first | done | rfl))
    | (refine w_condT ?_ ?_; · simp only [go_sem, Nat.reduceEqDiff, Nat.reduceAdd, Nat.reduceLeDiff]; (first | done | rfl))
    | (refine w_condF ?_ ?_; · simp only [go_sem, Nat.reduceEqDiff, Nat.reduceAdd, Nat.reduceLeDiff]; (first | done | rfl))
    | refine w_skip ?_ | refine w_exit ?_ | refine w_ret ?_
    )
    exact ⟨.inr rfl, by simp only [go_sem, Nat.reduceEqDiff, Nat.reduceAdd, Nat.reduceLeDiff, retOf, resOf, hfz]⟩
  · exact ⟨by simp only [go_sem, Nat.reduceEqDiff, Nat.reduceAdd, Nat.reduceLeDiff], by simp only [go_sem, Nat.reduceEqDiff, Nat.reduceAdd, Nat.reduceLeDiff]; exact .em⟩
  · simp only [go_sem, Nat.reduceEqDiff, Nat.reduceAdd, Nat.reduceLeDiff]
  · simp only [go_sem, Nat.reduceEqDiff, Nat.reduceAdd, Nat.reduceLeDiff, hlt]
def keepL (l : List Lab) (ns : List ByteArray) : List Lab := l.filter fun m => hasN ns m.1
/-- Of the first i names: is one of them s? -/
def anyN (ns : List ByteArray) (s : ByteArray) (i : Nat) : Bool := (ns.take i).any fun n => n.toList == s.toList
theorem anyN_succ {ns : List ByteArray} {s : ByteArray} {i : Nat} (hi : i < ns.length) : anyN ns s (i + 1) = (anyN ns s i || (ns[i].toList == s.toList)) := by
  unfold anyN
  rw [List.take_succ_eq_append_getElem hi, List.any_append]
  simp
theorem anyN_all (ns : List ByteArray) (s : ByteArray) : anyN ns s ns.length = hasN ns s := by
  unfold anyN
  rw [List.take_of_length_le (Nat.le_refl _), Bool.eq_iff_iff]
  unfold hasN
  rw [List.any_eq_true, decide_eq_true_iff]
  constructor
  · rintro ⟨n, hn, he⟩
    obtain ⟨i, hi, rfl⟩ := List.getElem_of_mem hn
    obtain ⟨j, h1, _⟩ := found_is (p := isS ns s) hi (by unfold isS; rw [nthS_eq hi]; simp only [beq_iff_eq] at he ⊢; exact he.symm)
    rw [h1]; omega
  · intro h
    obtain ⟨i, h1, h2⟩ := found_lt (p := isS ns s) (n := ns.length) (by omega)
    refine ⟨ns[i], List.getElem_mem h2, ?_⟩
    have hp : isS ns s i = true := by
      unfold found at h1
      cases hf : (List.range ns.length).find? (isS ns s) with
      | none => rw [hf] at h1; simp at h1
      | some k =>
        rw [hf] at h1
        simp only [Int.natCast_inj] at h1
        have := List.find?_some hf
        rwa [h1] at this
    unfold isS at hp
    rw [nthS_eq h2] at hp
    simp only [beq_iff_eq] at hp ⊢
    exact hp.symm
end
end Go.Proofs.YtjijlmfhnkipmaaDoorPv
namespace Go.Proofs.YtjijlmfhnkipmaaDoorPv
open Go
set_option linter.unusedSimpArgs false
set_option linter.unusedVariables false
set_option maxHeartbeats 4000000
attribute [local go_sem ↓] e_mv e_pick e_bin e_eqs e_beq e_un e_cvi e_str e_s2b e_b2s e_box e_build e_bsl e_ld e_st e_nck e_mkf e_slcS e_slcL e_fa e_fld e_ia e_iaa e_ix e_ixa e_ext e_lenS e_lenL e_mnmx e_app e_appb e_bbx e_msl e_clr e_call e_callv pa_t pa_c pa_f slcSP_str hiOf_some hiOf_none loOf_some loOf_none set_eq set_ne
attribute [local go_sem] pv pv1 simple frOf_0 frOf_1 frOf_2 frOf_3 frOf_4 frOf_5 ne_eq not_false_eq_true if_true Bool.false_eq_true if_false pbin punary Option.map_some Option.bind_some pick_and pick_or opt_true Bool.true_and Bool.and_self Bool.and_true Bool.true_or Bool.false_or Bool.not_true Bool.not_false callE pcall_eq List.map_cons List.map_nil List.append_nil List.nil_append List.cons_append mapM_cons' mapM_nil' dep_eq fz_sc fz_sl fz_em fz_fn fz_fp fz_agg fz_bx fz_ob Nat.lt_irrefl Nat.zero_lt_one Nat.lt_add_one flat clL cl Bool.or_true okc cells_agg cells_sc cells_sl cells_em cells_ob cells_fn cells_bx cells_fp List.length_cons List.length_nil Nat.zero_add and_self true_and and_true new_m new_c put_m put_c nil_m nil_c deref List.getElem?_cons_zero List.getElem?_cons_succ List.drop_zero List.drop_succ_cons List.take_succ_cons List.take_zero Nat.le_refl false_and and_false
set_option maxRecDepth 8000
/-- slices.DeleteFunc[[]transhipment/api.Label,transhipment/api.Label] -/
def d246 : Def := (.code 2 [.tmp 4] (.seq (.rg false [⟨.some 4, .none, .mv (.c (.slice .none 0 0))⟩]) (.seq (.rg false [⟨.some 8, .none, .mv (.t 0)⟩, ⟨.some 9, .none, .mv (.t 1)⟩, ⟨.some 10, .none, .call 121 .pure [.t 8, .t 9]⟩, ⟨.some 5, .none, .mv (.t 10)⟩]) (.seq (.seq (.rg false [⟨.some 11, .none, .mv (.t 5)⟩, ⟨.some 12, .none, .bin .eql (.t 11) (.c (.int .i64 (-1)))⟩]) (.cond (.t 12) (.seq (.rg false [⟨.some 13, .none, .mv (.t 0)⟩, ⟨.some 4, .none, .mv (.t 13)⟩]) .ret) .skip)) (.seq (.seq (.rg false [⟨.some 14, .none, .mv (.t 5)⟩, ⟨.some 15, .none, .bin .add (.t 14) (.c (.int .i64 1))⟩, ⟨.some 6, .none, .mv (.t 15)⟩]) (.block 0 (.loop (.seq (.seq (.rg false [⟨.some 16, .none, .mv (.t 6)⟩, ⟨.some 17, .none, .mv (.t 0)⟩, ⟨.some 18, .none, .lenL (.t 17)⟩, ⟨.some 19, .none, .bin .lss (.t 16) (.t 18)⟩]) (.cond (.t 19) .skip (.exit 0))) (.seq (.block 1 (.seq (.rg false [⟨.some 22, .none, .mv (.t 0)⟩, ⟨.some 23, .none, .mv (.t 6)⟩, ⟨.some 24, .none, .ia 2 (.t 22) (.t 23)⟩, ⟨.some 25, .none, .ld (.some 2) (.t 24)⟩, ⟨.some 7, .none, .box (.c (.agg #[.string ⟨#[]⟩, .string ⟨#[]⟩]))⟩, ⟨.none, .none, .st 2 (.t 7) (.t 25)⟩]) (.seq (.rg false [⟨.some 26, .none, .mv (.t 1)⟩, ⟨.some 27, .none, .ld (.some 2) (.t 7)⟩, ⟨.some 28, .none, .callv (.t 26) .pure [.t 27]⟩, ⟨.some 29, .none, .un .not (.t 28)⟩]) (.cond (.t 29) (.seq (.rg false [⟨.some 30, .none, .mv (.t 0)⟩, ⟨.some 31, .none, .mv (.t 5)⟩, ⟨.some 32, .none, .ld (.some 2) (.t 7)⟩, ⟨.some 33, .none, .ia 2 (.t 30) (.t 31)⟩, ⟨.none, .none, .st 2 (.t 33) (.t 32)⟩]) (.rg false [⟨.some 34, .none, .mv (.t 5)⟩, ⟨.some 35, .none, .bin .add (.t 34) (.c (.int .i64 1))⟩, ⟨.some 5, .none, .mv (.t 35)⟩])) .skip)))) (.rg false [⟨.some 20, .none, .mv (.t 6)⟩, ⟨.some 21, .none, .bin .add (.t 20) (.c (.int .i64 1))⟩, ⟨.some 6, .none, .mv (.t 21)⟩])))))) (.seq (.rg false [⟨.some 36, .none, .mv (.t 0)⟩, ⟨.some 37, .none, .mv (.t 5)⟩, ⟨.some 38, .none, .slcL 2 (.t 36) (.some (.t 37)) .none⟩, ⟨.none, .none, .clr 2 (.agg #[.string ⟨#[]⟩, .string ⟨#[]⟩]) (.t 38)⟩]) (.seq (.rg false [⟨.some 39, .none, .mv (.t 0)⟩, ⟨.some 40, .none, .mv (.t 5)⟩, ⟨.some 41, .none, .slcL 2 (.t 39) .none (.some (.t 40))⟩, ⟨.some 4, .none, .mv (.t 41)⟩]) .ret)))))))
/-- transhipment/label.Keep -/
def d244 : Def := (.code 2 [.tmp 4, .tmp 5] (.seq (.rg false [⟨.some 3, .none, .box (.t 1)⟩, ⟨.some 4, .none, .mv (.c (.slice .none 0 0))⟩, ⟨.some 5, .none, .mv (.c (.int .i64 0))⟩]) (.seq (.seq (.rg false [⟨.some 6, .none, .mv (.t 0)⟩, ⟨.some 7, .none, .call 113 .pure [.t 6]⟩, ⟨.some 8, .none, .un .not (.t 7)⟩]) (.cond (.t 8) (.seq (.rg false [⟨.some 4, .none, .mv (.c (.slice .none 0 0))⟩, ⟨.some 5, .none, .mv (.c (.int .i64 1))⟩]) .ret) .skip)) (.seq (.rg false [⟨.some 9, .none, .mv (.t 0)⟩, ⟨.some 10, .none, .call 128 .opn [.t 9]⟩, ⟨.some 11, .none, .mkf 247 [] [.t 3]⟩, ⟨.some 12, .none, .call 246 .opn [.t 10, .t 11]⟩, ⟨.some 4, .none, .mv (.t 12)⟩, ⟨.some 5, .none, .mv (.c (.int .i64 0))⟩]) .ret))))
def ly : List (Nat × Def) := [(246, d246), (244, d244)]
section
variable {env : Nat → Option Def} {fr : Fr} {σ σ' : St} {K : Fr → St → Prop} {Q : X → Fr → St → Prop}
theorem found_min {p : Nat → Bool} {n i : Nat} (h : found p n = (i : Int)) : i < n ∧ p i = true ∧ ∀ j, j < i → p j = false := by
  unfold found at h
  cases hf : (List.range n).find? p with
  | none => rw [hf] at h; simp at h
  | some k =>
    rw [hf] at h
    simp only [Int.natCast_inj] at h
    subst h
    have h1 : k < n := by simpa using List.mem_of_find?_eq_some hf
    have h2 := List.find?_range_eq_some.1 hf
    exact ⟨h1, h2.1, fun j hj => by simpa using h2.2.2 j hj⟩
theorem found_cases (p : Nat → Bool) (n : Nat) : found p n = -1 ∨ ∃ i : Nat, found p n = i := by
  unfold found
  cases (List.range n).find? p with
  | none => exact .inl rfl
  | some i => exact .inr ⟨i, rfl⟩
theorem keepL_all {l : List Lab} {ns : List ByteArray} (h : ∀ j, j < l.length → hasN ns (nth l j).1 = true) : keepL l ns = l := by
  unfold keepL
  rw [List.filter_eq_self]
  intro m hm
  obtain ⟨i, hi, rfl⟩ := List.getElem_of_mem hm
  have := h i hi
  rwa [nth_eq hi] at this
theorem keepL_succ {l : List Lab} {ns : List ByteArray} {j : Nat} (hj : j < l.length) : keepL (l.take (j + 1)) ns = keepL (l.take j) ns ++ if hasN ns l[j].1 = true then [l[j]] else [] := by
  unfold keepL
  rw [List.take_succ_eq_append_getElem hj, List.filter_append]
  cases h : hasN ns l[j].1 <;> simp [h]
theorem keepL_len (l : List Lab) (ns : List ByteArray) : (keepL l ns).length ≤ l.length := List.length_filter_le _ _
/-- What stands while labels are taken out: the first i of X are what is kept of the first j of l, behind j nothing has changed. -/
structure Del (l : List Lab) (ns : List ByteArray) (g g3 : Nat) (i j : Nat) (X : List Lab) (fr : Fr) (σ : St) : Prop where
  f0 : fr 0 = .ob 7 g 2 0 l.length
  f1 : fr 1 = .fn 247 [] [.bx 3 g3 1 0 0]
  f5 : fr 5 = .sc (.int .i64 (i : Int))
  f6 : fr 6 = .sc (.int .i64 (j : Int))
  lx : X.length = l.length
  ij : i < j
  tk : X.take i = keepL (l.take j) ns
  dr : X.drop j = l.drop j
  mm : σ.m 7 g = some ⟨2, labs X, true, true⟩
  gc : g < σ.c 7
  mq : ∃ wr, σ.m 3 g3 = some ⟨1, [.sl (strs ns)], true, wr⟩
theorem labs_fzd (σ : St) (d : Nat) (l : List Lab) : (labs l).mapM (fz σ (d + 2)) = some (labs l) := by
  induction l with
  | nil => rfl
  | cons m r ih =>
    show List.mapM (fz σ (d + 2)) (lab m :: labs r) = _
    rw [mapM_cons', ih]
    rfl
theorem gat_fzd {os : List Nat} {es d : Nat} {w : Bool} {p : PV} {xs : List PV} (h : Gat σ os es w p xs) (hx : xs.mapM (fz σ d) = some xs) : fz σ (d + 1) p = some (.sl xs) := by
  rcases h with ⟨rfl, rfl⟩ | ⟨o, g, wr, _, rfl, h2, _⟩
  · rfl
  · rw [fz_ob, h2]
    simp [hx]
/-- A call whose answer is no part of memory: nothing else changes. -/
theorem s_callF {d f : Nat} {args : List PA} {as : List PV} {r : PV} {ops : List POp} (h1 : (args.map (pa fr)).mapM (fz σ dep) = some as) (h2 : AV env f as = some r) (hf : flat r = true) (h : Wos env ops K (fr.set d r) σ) :
    Wos env (⟨some d, none, .call f .pure args⟩ :: ops) K fr σ := by
  refine s_plain (v := r) (σ' := σ) ?_ h
  simp only [evO, callE, pcall_eq, h1, Option.bind_some, h2, hf, Bool.true_or, if_true]
theorem a246 (G : Has lc env) (X : Has lx env) {l : List Lab} {ns : List ByteArray} (hn : l.length ≤ 1000) (hs : ns.length ≤ 9223372036854775807) {p : PV} {g3 : Nat} {wr : Bool} (Y : Has ly env)
    (hp : Gat σ [7] 2 true p (labs l)) (hq : σ.m 3 g3 = some ⟨1, [.sl (strs ns)], true, wr⟩) : ∃ r σ', EV env 246 [p, .fn 247 [] [.bx 3 g3 1 0 0]] σ = some (r, σ') ∧ fz σ' 11 r = some (.sl (labs (keepL l ns))) := by
  have hb247 : ∀ m : Lab, AV env 247 ([] ++ [lab m] ++ [.fp [.sl (strs ns)] 0 0]) = some (.sc (.bool (!hasN ns m.1))) := fun m => a247 X hs m
  have h121 := a121 G (l := l) (k := 247) (a := []) (b := [.fp [.sl (strs ns)] 0 0]) (p := fun i => !hasN ns (nth l i).1) (by omega) (fun m σ => rfl) (fun i m hm => by
    rw [hb247 m]
    have : nth l i = m := by unfold nth; rw [hm]; rfl
    rw [this])
  have hp12 := hp.fz (labs_fz σ l)
  have hp12' : fz σ dep p = some (.sl (labs l)) := hp12
  have hq12 : fz σ dep (.fn 247 [] [.bx 3 g3 1 0 0]) = some (.fn 247 [] [.fp [.sl (strs ns)] 0 0]) := by
    show fz σ (11 + 1) _ = _
    rw [fz_fn]
    simp only [mapM_cons', mapM_nil', fz_bx, hq, List.length_cons, List.length_nil]
    rfl
  refine EV_wp' (Y (246, d246) (by simp [ly])) rfl ?_
  (repeat' first
    | refine w_seq ?_ | refine w_rg ?_ | refine wo_nil ?_ | refine g_skU ?_
    | ((first | apply s_plain | apply s_void | apply s_guard); · simp only [go_sem, Nat.reduceEqDiff, Nat.reduceAdd, Nat.reduceLeDiff]; (first | done | rfl))
    | ((first | apply g_T | apply g_F); · intro hb; simp only [go_sem, Nat.reduceEqDiff, Nat.reduceAdd, Nat.reduceLeDiff, hb]; (first | done | rfl))
    | ((first | apply g_gT | apply g_gF); · intro hb hc; simp only [go_sem, Nat.reduceEqDiff, Nat.reduceAdd, Nat.reduceLeDiff, hb, hc]; (first | done | rfl))
    | refine g_skT ?_ | refine g_skF ?_
    | ((first | apply g_goT | apply g_goF); · simp only [go_sem, Nat.reduceEqDiff, Nat.reduceAdd, Nat.reduceLeDiff]; (first | done | rfl))
    )
  refine s_callF (as := [.sl (labs l), .fn 247 [] [.fp [.sl (strs ns)] 0 0]]) (by
    have e8 : pa (((((frOf [p, .fn 247 [] [.bx 3 g3 1 0 0]]).set 4 PV.em).set 8 p).set 9 (.fn 247 [] [.bx 3 g3 1 0 0]))) (.t 8) = p := by simp only [go_sem, Nat.reduceEqDiff, Nat.reduceAdd, Nat.reduceLeDiff]
    have e9 : pa (((((frOf [p, .fn 247 [] [.bx 3 g3 1 0 0]]).set 4 PV.em).set 8 p).set 9 (.fn 247 [] [.bx 3 g3 1 0 0]))) (.t 9) = .fn 247 [] [.bx 3 g3 1 0 0] := by simp only [go_sem, Nat.reduceEqDiff, Nat.reduceAdd, Nat.reduceLeDiff]
    simp only [List.map_cons, List.map_nil, e8, e9, mapM_cons', mapM_nil', hp12', hq12, Option.bind_some, Option.map_some]) h121 rfl ?_
  (repeat' first
    | refine w_seq ?_ | refine w_rg ?_ | refine wo_nil ?_ | refine g_skU ?_
    | ((first | apply s_plain | apply s_void | apply s_guard); · simp only [go_sem, Nat.reduceEqDiff, Nat.reduceAdd, Nat.reduceLeDiff]; (first | done | rfl))
    | ((first | apply g_T | apply g_F); · intro hb; simp only [go_sem, Nat.reduceEqDiff, Nat.reduceAdd, Nat.reduceLeDiff, hb]; (first | done | rfl))
    | ((first | apply g_gT | apply g_gF); · intro hb hc; simp only [go_sem, Nat.reduceEqDiff, Nat.reduceAdd, Nat.reduceLeDiff, hb, hc]; (first | done | rfl))
    | refine g_skT ?_ | refine g_skF ?_
    | ((first | apply g_goT | apply g_goF); · simp only [go_sem, Nat.reduceEqDiff, Nat.reduceAdd, Nat.reduceLeDiff]; (first | done | rfl))
    )
  rcases found_cases (fun i => !hasN ns (nth l i).1) l.length with h0 | ⟨i0, h0⟩
  · have hall := found_no (p := fun i => !hasN ns (nth l i).1) (n := l.length) (by omega)
    have hk := keepL_all (l := l) (ns := ns) (fun j hj => by simpa using hall j hj)
    rw [h0]
    (repeat' first
    | refine w_seq ?_ | refine w_rg ?_ | refine wo_nil ?_ | refine g_skU ?_
    | ((first | apply s_plain | apply s_void | apply s_guard); · simp only [go_sem, Nat.reduceEqDiff, Nat.reduceAdd, Nat.reduceLeDiff]; (first | done | rfl))
    | ((first | apply g_T | apply g_F); · intro hb; simp only [go_sem, Nat.reduceEqDiff, Nat.reduceAdd, Nat.reduceLeDiff, hb]; (first | done | rfl))
    | ((first | apply g_gT | apply g_gF); · intro hb hc; simp only [go_sem, Nat.reduceEqDiff, Nat.reduceAdd, Nat.reduceLeDiff, hb, hc]; (first | done | rfl))
    | refine g_skT ?_ | refine g_skF ?_
    | ((first | apply g_goT | apply g_goF); · simp only [go_sem, Nat.reduceEqDiff, Nat.reduceAdd, Nat.reduceLeDiff]; (first | done | rfl))
    | (refine w_condT ?_ ?_; · simp only [go_sem, Nat.reduceEqDiff, Nat.reduceAdd, Nat.reduceLeDiff]; (first | done | rfl))
    | (refine w_condF ?_ ?_; · simp only [go_sem, Nat.reduceEqDiff, Nat.reduceAdd, Nat.reduceLeDiff]; (first | done | rfl))
    | refine w_skip ?_ | refine w_exit ?_ | refine w_ret ?_
    )
    exact ⟨.inr rfl, p, by simp only [go_sem, Nat.reduceEqDiff, Nat.reduceAdd, Nat.reduceLeDiff, retOf, resOf], by rw [hk]; exact gat_fzd hp (labs_fzd σ 8 l)⟩
  · obtain ⟨hi0, hpi, hmin⟩ := found_min h0
    rw [h0]
    have hne1 : ((i0 : Int) == -1) = false := by
      rw [beq_eq_false_iff_ne]; omega
    have w1 : IntKind.i64.wrap ((i0 : Int) + 1) = ((i0 + 1 : Nat) : Int) := wrap_succ hi0 (by omega)
    obtain ⟨g, rfl, hm, hgc⟩ : ∃ g, p = .ob 7 g 2 0 l.length ∧ σ.m 7 g = some ⟨2, labs l, true, true⟩ ∧ g < σ.c 7 := by
      rcases hp with ⟨_, h⟩ | ⟨o, g, wr, h0, h1, h2, h3, h4, h5⟩
      · have := labs_len l; rw [h] at this; simp at this; omega
      · simp only [List.mem_singleton] at h0
        subst h0
        rw [h5 rfl] at h2
        rw [labs_len] at h1
        exact ⟨g, h1, h2, h3⟩
    (repeat' first
    | refine w_seq ?_ | refine w_rg ?_ | refine wo_nil ?_ | refine g_skU ?_
    | ((first | apply s_plain | apply s_void | apply s_guard); · simp only [go_sem, Nat.reduceEqDiff, Nat.reduceAdd, Nat.reduceLeDiff, hne1]; (first | done | rfl))
    | ((first | apply g_T | apply g_F); · intro hb; simp only [go_sem, Nat.reduceEqDiff, Nat.reduceAdd, Nat.reduceLeDiff, hne1, hb]; (first | done | rfl))
    | ((first | apply g_gT | apply g_gF); · intro hb hc; simp only [go_sem, Nat.reduceEqDiff, Nat.reduceAdd, Nat.reduceLeDiff, hne1, hb, hc]; (first | done | rfl))
    | refine g_skT ?_ | refine g_skF ?_
    | ((first | apply g_goT | apply g_goF); · simp only [go_sem, Nat.reduceEqDiff, Nat.reduceAdd, Nat.reduceLeDiff, hne1]; (first | done | rfl))
    | (refine w_condT ?_ ?_; · simp only [go_sem, Nat.reduceEqDiff, Nat.reduceAdd, Nat.reduceLeDiff, hne1]; (first | done | rfl))
    | (refine w_condF ?_ ?_; · simp only [go_sem, Nat.reduceEqDiff, Nat.reduceAdd, Nat.reduceLeDiff, hne1]; (first | done | rfl))
    | refine w_skip ?_ | refine w_exit ?_ | refine w_ret ?_
    )
    (repeat' first
    | refine w_seq ?_ | refine w_rg ?_ | refine wo_nil ?_ | refine g_skU ?_
    | ((first | apply s_plain | apply s_void | apply s_guard); · simp only [go_sem, Nat.reduceEqDiff, Nat.reduceAdd, Nat.reduceLeDiff, w1]; (first | done | rfl))
    | ((first | apply g_T | apply g_F); · intro hb; simp only [go_sem, Nat.reduceEqDiff, Nat.reduceAdd, Nat.reduceLeDiff, w1, hb]; (first | done | rfl))
    | ((first | apply g_gT | apply g_gF); · intro hb hc; simp only [go_sem, Nat.reduceEqDiff, Nat.reduceAdd, Nat.reduceLeDiff, w1, hb, hc]; (first | done | rfl))
    | refine g_skT ?_ | refine g_skF ?_
    | ((first | apply g_goT | apply g_goF); · simp only [go_sem, Nat.reduceEqDiff, Nat.reduceAdd, Nat.reduceLeDiff, w1]; (first | done | rfl))
    )
    refine w_block (w_count (l.length - (i0 + 1)) (fun c fr σ => ∃ i X, Del l ns g g3 i (i0 + 1 + c) X fr σ) ?_ _ _ ?_)
    · rintro c fr σ hc ⟨i, X, f0, f1, f5, f6, lx, ij, tk, dr, mm, gc, wq, mq⟩
      by_cases hlt : i0 + 1 + c < l.length
      · have hd : decide (((i0 + 1 + c : Nat) : Int) < (l.length : Int)) = true := by simp; omega
        have hA : (labs X).length = l.length := by rw [labs_len]; exact lx
        have hXj : X[i0 + 1 + c]? = some l[i0 + 1 + c] := by
          have : (X.drop (i0 + 1 + c))[0]? = (l.drop (i0 + 1 + c))[0]? := by rw [dr]
          simpa [List.getElem?_eq_getElem hlt] using this
        have x1 := labs_at hXj
        simp only [lab] at x1
        have e1 : (0 : Int) ≤ ((i0 + 1 + c : Nat) : Int) ∧ ((i0 + 1 + c : Nat) : Int) < (l.length : Int) := by omega
        have e2 : (0 : Int) ≤ (i : Int) ∧ (i : Int) < (l.length : Int) := by omega
        have hgn : ¬ g = σ.c 7 := by omega
        have h247 := hb247 l[i0 + 1 + c]
        simp only [lab, List.nil_append, List.cons_append] at h247
        have wj : IntKind.i64.wrap (((i0 + 1 + c : Nat) : Int) + 1) = ((i0 + 1 + (c + 1) : Nat) : Int) := wrap_succ hlt (by omega)
        have wi : IntKind.i64.wrap ((i : Int) + 1) = ((i + 1 : Nat) : Int) := wrap_succ (n := l.length) (by omega) (by omega)
        have il : i < (labs X).length := by rw [hA]; omega
        have hks := keepL_succ (ns := ns) hlt
        (repeat' first
    | refine w_seq ?_ | refine w_rg ?_ | refine wo_nil ?_ | refine g_skU ?_
    | ((first | apply s_plain | apply s_void | apply s_guard); · simp only [go_sem, Nat.reduceEqDiff, Nat.reduceAdd, Nat.reduceLeDiff, f0, f6, hd]; (first | done | rfl))
    | ((first | apply g_T | apply g_F); · intro hb; simp only [go_sem, Nat.reduceEqDiff, Nat.reduceAdd, Nat.reduceLeDiff, f0, f6, hd, hb]; (first | done | rfl))
    | ((first | apply g_gT | apply g_gF); · intro hb hc; simp only [go_sem, Nat.reduceEqDiff, Nat.reduceAdd, Nat.reduceLeDiff, f0, f6, hd, hb, hc]; (first | done | rfl))
    | refine g_skT ?_ | refine g_skF ?_
    | ((first | apply g_goT | apply g_goF); · simp only [go_sem, Nat.reduceEqDiff, Nat.reduceAdd, Nat.reduceLeDiff, f0, f6, hd]; (first | done | rfl))
    | (refine w_condT ?_ ?_; · simp only [go_sem, Nat.reduceEqDiff, Nat.reduceAdd, Nat.reduceLeDiff, f0, f6, hd]; (first | done | rfl))
    | (refine w_condF ?_ ?_; · simp only [go_sem, Nat.reduceEqDiff, Nat.reduceAdd, Nat.reduceLeDiff, f0, f6, hd]; (first | done | rfl))
    | refine w_skip ?_ | refine w_exit ?_ | refine w_ret ?_
    )
        refine w_block ?_
        (repeat' first
    | refine w_seq ?_ | refine w_rg ?_ | refine wo_nil ?_ | refine g_skU ?_
    | ((first | apply s_plain | apply s_void | apply s_guard); · simp only [go_sem, Nat.reduceEqDiff, Nat.reduceAdd, Nat.reduceLeDiff, f0, f1, f6, f5, mm, mq, e1, hgn, Int.toNat_natCast, x1, List.modify_zero_cons, h247]; (first | done | rfl))
    | ((first | apply g_T | apply g_F); · intro hb; simp only [go_sem, Nat.reduceEqDiff, Nat.reduceAdd, Nat.reduceLeDiff, f0, f1, f6, f5, mm, mq, e1, hgn, Int.toNat_natCast, x1, List.modify_zero_cons, h247, hb]; (first | done | rfl))
    | ((first | apply g_gT | apply g_gF); · intro hb hc; simp only [go_sem, Nat.reduceEqDiff, Nat.reduceAdd, Nat.reduceLeDiff, f0, f1, f6, f5, mm, mq, e1, hgn, Int.toNat_natCast, x1, List.modify_zero_cons, h247, hb, hc]; (first | done | rfl))
    | refine g_skT ?_ | refine g_skF ?_
    | ((first | apply g_goT | apply g_goF); · simp only [go_sem, Nat.reduceEqDiff, Nat.reduceAdd, Nat.reduceLeDiff, f0, f1, f6, f5, mm, mq, e1, hgn, Int.toNat_natCast, x1, List.modify_zero_cons, h247]; (first | done | rfl))
    )
        cases hk : hasN ns l[i0 + 1 + c].1 with
        | false =>
          rw [hk, if_neg (by decide), List.append_nil] at hks
          (repeat' first
    | refine w_seq ?_ | refine w_rg ?_ | refine wo_nil ?_ | refine g_skU ?_
    | ((first | apply s_plain | apply s_void | apply s_guard); · simp only [go_sem, Nat.reduceEqDiff, Nat.reduceAdd, Nat.reduceLeDiff]; (first | done | rfl))
    | ((first | apply g_T | apply g_F); · intro hb; simp only [go_sem, Nat.reduceEqDiff, Nat.reduceAdd, Nat.reduceLeDiff, hb]; (first | done | rfl))
    | ((first | apply g_gT | apply g_gF); · intro hb hc; simp only [go_sem, Nat.reduceEqDiff, Nat.reduceAdd, Nat.reduceLeDiff, hb, hc]; (first | done | rfl))
    | refine g_skT ?_ | refine g_skF ?_
    | ((first | apply g_goT | apply g_goF); · simp only [go_sem, Nat.reduceEqDiff, Nat.reduceAdd, Nat.reduceLeDiff]; (first | done | rfl))
    | (refine w_condT ?_ ?_; · simp only [go_sem, Nat.reduceEqDiff, Nat.reduceAdd, Nat.reduceLeDiff]; (first | done | rfl))
    | (refine w_condF ?_ ?_; · simp only [go_sem, Nat.reduceEqDiff, Nat.reduceAdd, Nat.reduceLeDiff]; (first | done | rfl))
    | refine w_skip ?_ | refine w_exit ?_ | refine w_ret ?_
    )
          (repeat' first
    | refine w_seq ?_ | refine w_rg ?_ | refine wo_nil ?_ | refine g_skU ?_
    | ((first | apply s_plain | apply s_void | apply s_guard); · simp only [go_sem, Nat.reduceEqDiff, Nat.reduceAdd, Nat.reduceLeDiff, f6, wj]; (first | done | rfl))
    | ((first | apply g_T | apply g_F); · intro hb; simp only [go_sem, Nat.reduceEqDiff, Nat.reduceAdd, Nat.reduceLeDiff, f6, wj, hb]; (first | done | rfl))
    | ((first | apply g_gT | apply g_gF); · intro hb hc; simp only [go_sem, Nat.reduceEqDiff, Nat.reduceAdd, Nat.reduceLeDiff, f6, wj, hb, hc]; (first | done | rfl))
    | refine g_skT ?_ | refine g_skF ?_
    | ((first | apply g_goT | apply g_goF); · simp only [go_sem, Nat.reduceEqDiff, Nat.reduceAdd, Nat.reduceLeDiff, f6, wj]; (first | done | rfl))
    )
          refine ⟨by omega, i, X, ?_, ?_, ?_, ?_, lx, by omega, ?_, ?_, ?_, ?_, wq, ?_⟩
          · simp only [go_sem, Nat.reduceEqDiff, Nat.reduceAdd, Nat.reduceLeDiff, f0]
          · simp only [go_sem, Nat.reduceEqDiff, Nat.reduceAdd, Nat.reduceLeDiff, f1]
          · simp only [go_sem, Nat.reduceEqDiff, Nat.reduceAdd, Nat.reduceLeDiff, f5]
          · simp only [go_sem, Nat.reduceEqDiff, Nat.reduceAdd, Nat.reduceLeDiff]
          · rw [tk]; exact hks.symm
          · have : (X.drop (i0 + 1 + c)).drop 1 = (l.drop (i0 + 1 + c)).drop 1 := by rw [dr]
            simpa [List.drop_drop, Nat.add_assoc] using this
          · simp only [go_sem, Nat.reduceEqDiff, Nat.reduceAdd, Nat.reduceLeDiff, hgn, mm]
          · simp only [go_sem, Nat.reduceEqDiff, Nat.reduceAdd, Nat.reduceLeDiff]; omega
          · simp only [go_sem, Nat.reduceEqDiff, Nat.reduceAdd, Nat.reduceLeDiff, mq]
        | true =>
          rw [hk, if_pos rfl] at hks
          (repeat' first
    | refine w_seq ?_ | refine w_rg ?_ | refine wo_nil ?_ | refine g_skU ?_
    | ((first | apply s_plain | apply s_void | apply s_guard); · simp only [go_sem, Nat.reduceEqDiff, Nat.reduceAdd, Nat.reduceLeDiff]; (first | done | rfl))
    | ((first | apply g_T | apply g_F); · intro hb; simp only [go_sem, Nat.reduceEqDiff, Nat.reduceAdd, Nat.reduceLeDiff, hb]; (first | done | rfl))
    | ((first | apply g_gT | apply g_gF); · intro hb hc; simp only [go_sem, Nat.reduceEqDiff, Nat.reduceAdd, Nat.reduceLeDiff, hb, hc]; (first | done | rfl))
    | refine g_skT ?_ | refine g_skF ?_
    | ((first | apply g_goT | apply g_goF); · simp only [go_sem, Nat.reduceEqDiff, Nat.reduceAdd, Nat.reduceLeDiff]; (first | done | rfl))
    | (refine w_condT ?_ ?_; · simp only [go_sem, Nat.reduceEqDiff, Nat.reduceAdd, Nat.reduceLeDiff]; (first | done | rfl))
    | (refine w_condF ?_ ?_; · simp only [go_sem, Nat.reduceEqDiff, Nat.reduceAdd, Nat.reduceLeDiff]; (first | done | rfl))
    | refine w_skip ?_ | refine w_exit ?_ | refine w_ret ?_
    )
          (repeat' first
    | refine w_seq ?_ | refine w_rg ?_ | refine wo_nil ?_ | refine g_skU ?_
    | ((first | apply s_plain | apply s_void | apply s_guard); · simp only [go_sem, Nat.reduceEqDiff, Nat.reduceAdd, Nat.reduceLeDiff, f0, f5, mm, e2, hgn, Int.toNat_natCast, il]; (first | done | rfl))
    | ((first | apply g_T | apply g_F); · intro hb; simp only [go_sem, Nat.reduceEqDiff, Nat.reduceAdd, Nat.reduceLeDiff, f0, f5, mm, e2, hgn, Int.toNat_natCast, il, hb]; (first | done | rfl))
    | ((first | apply g_gT | apply g_gF); · intro hb hc; simp only [go_sem, Nat.reduceEqDiff, Nat.reduceAdd, Nat.reduceLeDiff, f0, f5, mm, e2, hgn, Int.toNat_natCast, il, hb, hc]; (first | done | rfl))
    | refine g_skT ?_ | refine g_skF ?_
    | ((first | apply g_goT | apply g_goF); · simp only [go_sem, Nat.reduceEqDiff, Nat.reduceAdd, Nat.reduceLeDiff, f0, f5, mm, e2, hgn, Int.toNat_natCast, il]; (first | done | rfl))
    )
          (repeat' first
    | refine w_seq ?_ | refine w_rg ?_ | refine wo_nil ?_ | refine g_skU ?_
    | ((first | apply s_plain | apply s_void | apply s_guard); · simp only [go_sem, Nat.reduceEqDiff, Nat.reduceAdd, Nat.reduceLeDiff, f6, wj, wi]; (first | done | rfl))
    | ((first | apply g_T | apply g_F); · intro hb; simp only [go_sem, Nat.reduceEqDiff, Nat.reduceAdd, Nat.reduceLeDiff, f6, wj, wi, hb]; (first | done | rfl))
    | ((first | apply g_gT | apply g_gF); · intro hb hc; simp only [go_sem, Nat.reduceEqDiff, Nat.reduceAdd, Nat.reduceLeDiff, f6, wj, wi, hb, hc]; (first | done | rfl))
    | refine g_skT ?_ | refine g_skF ?_
    | ((first | apply g_goT | apply g_goF); · simp only [go_sem, Nat.reduceEqDiff, Nat.reduceAdd, Nat.reduceLeDiff, f6, wj, wi]; (first | done | rfl))
    )
          refine ⟨by omega, i + 1, X.set i l[i0 + 1 + c], ?_, ?_, ?_, ?_, by simp [lx], by omega, ?_, ?_, ?_, ?_, wq, ?_⟩
          · simp only [go_sem, Nat.reduceEqDiff, Nat.reduceAdd, Nat.reduceLeDiff, f0]
          · simp only [go_sem, Nat.reduceEqDiff, Nat.reduceAdd, Nat.reduceLeDiff, f1]
          · simp only [go_sem, Nat.reduceEqDiff, Nat.reduceAdd, Nat.reduceLeDiff, wi]
          · simp only [go_sem, Nat.reduceEqDiff, Nat.reduceAdd, Nat.reduceLeDiff]
          · show List.take (i + 1) _ = keepL (l.take (i0 + 1 + c + 1)) ns
            rw [hks, ← tk, List.take_succ_eq_append_getElem (by rw [List.length_set]; omega), List.take_set_of_le (Nat.le_refl _)]
            simp
          · have : (X.drop (i0 + 1 + c)).drop 1 = (l.drop (i0 + 1 + c)).drop 1 := by rw [dr]
            rw [List.drop_set, if_pos (by omega)]
            simpa [List.drop_drop, Nat.add_assoc] using this
          · simp only [go_sem, Nat.reduceEqDiff, Nat.reduceAdd, Nat.reduceLeDiff, hgn, mm]
            rw [modify_set]
            have q := labs_set X i l[i0 + 1 + c]
            simp only [lab] at q
            rw [q]
          · simp only [go_sem, Nat.reduceEqDiff, Nat.reduceAdd, Nat.reduceLeDiff]; omega
          · simp only [go_sem, Nat.reduceEqDiff, Nat.reduceAdd, Nat.reduceLeDiff, mq]
      · have hd : decide (((i0 + 1 + c : Nat) : Int) < (l.length : Int)) = false := by simp; omega
        (repeat' first
    | refine w_seq ?_ | refine w_rg ?_ | refine wo_nil ?_ | refine g_skU ?_
    | ((first | apply s_plain | apply s_void | apply s_guard); · simp only [go_sem, Nat.reduceEqDiff, Nat.reduceAdd, Nat.reduceLeDiff, f0, f6, hd]; (first | done | rfl))
    | ((first | apply g_T | apply g_F); · intro hb; simp only [go_sem, Nat.reduceEqDiff, Nat.reduceAdd, Nat.reduceLeDiff, f0, f6, hd, hb]; (first | done | rfl))
    | ((first | apply g_gT | apply g_gF); · intro hb hc; simp only [go_sem, Nat.reduceEqDiff, Nat.reduceAdd, Nat.reduceLeDiff, f0, f6, hd, hb, hc]; (first | done | rfl))
    | refine g_skT ?_ | refine g_skF ?_
    | ((first | apply g_goT | apply g_goF); · simp only [go_sem, Nat.reduceEqDiff, Nat.reduceAdd, Nat.reduceLeDiff, f0, f6, hd]; (first | done | rfl))
    | (refine w_condT ?_ ?_; · simp only [go_sem, Nat.reduceEqDiff, Nat.reduceAdd, Nat.reduceLeDiff, f0, f6, hd]; (first | done | rfl))
    | (refine w_condF ?_ ?_; · simp only [go_sem, Nat.reduceEqDiff, Nat.reduceAdd, Nat.reduceLeDiff, f0, f6, hd]; (first | done | rfl))
    | refine w_skip ?_ | refine w_exit ?_ | refine w_ret ?_
    )
        try simp only [if_true]
        have hA : (labs X).length = l.length := by rw [labs_len]; exact lx
        have bi : bound l.length (.sc (.int .i64 (i : Int))) = some i := bound_nat (by omega)
        have e3 : i + (l.length - i) ≤ (labs X).length := by omega
        have e3' : (i ≤ l.length) = True := by simp; omega
        rw [List.take_of_length_le (by omega : l.length ≤ i0 + 1 + c)] at tk
        (repeat' first
    | refine w_seq ?_ | refine w_rg ?_ | refine wo_nil ?_ | refine g_skU ?_
    | ((first | apply s_plain | apply s_void | apply s_guard); · simp only [go_sem, Nat.reduceEqDiff, Nat.reduceAdd, Nat.reduceLeDiff, f0, f5, slcLP, bi, bound_nat (Nat.le_refl l.length), mm, e3, Nat.zero_add, Nat.sub_zero]; (first | done | rfl))
    | ((first | apply g_T | apply g_F); · intro hb; simp only [go_sem, Nat.reduceEqDiff, Nat.reduceAdd, Nat.reduceLeDiff, f0, f5, slcLP, bi, bound_nat (Nat.le_refl l.length), mm, e3, Nat.zero_add, Nat.sub_zero, hb]; (first | done | rfl))
    | ((first | apply g_gT | apply g_gF); · intro hb hc; simp only [go_sem, Nat.reduceEqDiff, Nat.reduceAdd, Nat.reduceLeDiff, f0, f5, slcLP, bi, bound_nat (Nat.le_refl l.length), mm, e3, Nat.zero_add, Nat.sub_zero, hb, hc]; (first | done | rfl))
    | refine g_skT ?_ | refine g_skF ?_
    | ((first | apply g_goT | apply g_goF); · simp only [go_sem, Nat.reduceEqDiff, Nat.reduceAdd, Nat.reduceLeDiff, f0, f5, slcLP, bi, bound_nat (Nat.le_refl l.length), mm, e3, Nat.zero_add, Nat.sub_zero]; (first | done | rfl))
    )
        (repeat' first
    | refine w_seq ?_ | refine w_rg ?_ | refine wo_nil ?_ | refine g_skU ?_
    | ((first | apply s_plain | apply s_void | apply s_guard); · simp only [go_sem, Nat.reduceEqDiff, Nat.reduceAdd, Nat.reduceLeDiff]; (first | done | rfl))
    | ((first | apply g_T | apply g_F); · intro hb; simp only [go_sem, Nat.reduceEqDiff, Nat.reduceAdd, Nat.reduceLeDiff, hb]; (first | done | rfl))
    | ((first | apply g_gT | apply g_gF); · intro hb hc; simp only [go_sem, Nat.reduceEqDiff, Nat.reduceAdd, Nat.reduceLeDiff, hb, hc]; (first | done | rfl))
    | refine g_skT ?_ | refine g_skF ?_
    | ((first | apply g_goT | apply g_goF); · simp only [go_sem, Nat.reduceEqDiff, Nat.reduceAdd, Nat.reduceLeDiff]; (first | done | rfl))
    | (refine w_condT ?_ ?_; · simp only [go_sem, Nat.reduceEqDiff, Nat.reduceAdd, Nat.reduceLeDiff]; (first | done | rfl))
    | (refine w_condF ?_ ?_; · simp only [go_sem, Nat.reduceEqDiff, Nat.reduceAdd, Nat.reduceLeDiff]; (first | done | rfl))
    | refine w_skip ?_ | refine w_exit ?_ | refine w_ret ?_
    )
        refine ⟨.inr rfl, _, by simp only [go_sem, Nat.reduceEqDiff, Nat.reduceAdd, Nat.reduceLeDiff, retOf, resOf]; first | done | rfl, ?_⟩
        rw [fz_ob]
        simp only [go_sem, Nat.reduceEqDiff, Nat.reduceAdd, Nat.reduceLeDiff]
        have hl2 : (List.take i (labs X) ++ List.replicate (l.length - i) (PV.agg [.sc (.string ⟨#[]⟩), .sc (.string ⟨#[]⟩)]) ++ List.drop (i + (l.length - i)) (labs X)).take i = labs (keepL l ns) := by
          rw [List.append_assoc, List.take_append_of_le_length (by simp; omega), List.take_take, Nat.min_self, ← tk]
          simp [labs]
        have hl3 : i ≤ (List.take i (labs X) ++ List.replicate (l.length - i) (PV.agg [.sc (.string ⟨#[]⟩), .sc (.string ⟨#[]⟩)]) ++ List.drop (i + (l.length - i)) (labs X)).length := by
          simp; omega
        rw [if_pos hl3, hl2, labs_fzd]
        rfl
    · refine ⟨i0, l, ?_, ?_, ?_, ?_, rfl, by omega, ?_, rfl, ?_, ?_, wr, ?_⟩
      · simp only [go_sem, Nat.reduceEqDiff, Nat.reduceAdd, Nat.reduceLeDiff]
      · simp only [go_sem, Nat.reduceEqDiff, Nat.reduceAdd, Nat.reduceLeDiff]
      · simp only [go_sem, Nat.reduceEqDiff, Nat.reduceAdd, Nat.reduceLeDiff]
      · simp only [go_sem, Nat.reduceEqDiff, Nat.reduceAdd, Nat.reduceLeDiff, w1]; first | done | rfl
      · rw [Nat.add_zero, keepL_succ hi0]
        rw [nth_eq hi0] at hpi
        simp only [Bool.not_eq_true'] at hpi
        rw [hpi, if_neg (by decide), List.append_nil, keepL_all fun j hj => ?_]
        rw [List.length_take] at hj
        have := hmin j (by omega)
        simp only [Bool.not_eq_false'] at this
        rw [nth_eq (by omega)] at this
        rw [nth_eq (by rw [List.length_take]; exact hj), List.getElem_take]
        exact this
      · exact hm
      · exact hgc
      · exact hq
theorem a128k (V : Has lq0 env) {l : List Lab} (hn : l.length ≤ 1000000) : ∃ r σ', EV env 128 [.sl (labs l)] σ = some (r, σ') ∧ Gat σ' [7] 2 true r (labs l) ∧ ∀ o g, o ≠ 7 → σ'.m o g = σ.m o g := by
  have h := V (128, .prim (cloneF 2 32)) (by simp [lq0])
  have hall := labs_ok l
  have hb : decide ((labs l).length * 32 ≤ 70368744177664) = true := decide_eq_true (by rw [labs_len]; omega)
  cases hl : labs l with
  | nil =>
    exact ⟨.em, σ, EV_of (n := 1) (by simp only [evF, h]; rfl), .em, fun _ _ _ => rfl⟩
  | cons x r =>
    refine ⟨.ob 7 (σ.c 7) 2 0 (labs l).length, σ.new 7 ⟨2, labs l, true, true⟩, EV_of (n := 1) ?_, .inr ⟨7, σ.c 7, true, by simp, by rw [hl], by rw [← hl]; simp [new_m], by simp [new_c], by simp, fun _ => rfl⟩, fun o g ho => by simp [new_m, ho]⟩
    rw [← hl]
    have he : (labs l).isEmpty = false := by rw [hl]; rfl
    simp only [evF, h, cloneF, hall, hb, he, Bool.and_self, if_true, Bool.false_eq_true, if_false]
def keptL (l : List Lab) (ns : List ByteArray) : List Lab × Int := if rightL l then (keepL l ns, 0) else ([], 1)
theorem a244 (H : Has la0 env) (G : Has lc env) (V : Has lq0 env) (X : Has lx env) (Y : Has ly env) {l : List Lab} (hn : l.length ≤ 9223372036854775807) (hl : Smalls l) {ns : List ByteArray} (hs : ns.length ≤ 9223372036854775807) :
    AV env 244 [.sl (labs l), .sl (strs ns)] = some (.tu [.sl (labs (keptL l ns).1), .sc (.int .i64 (keptL l ns).2)]) := by
  have h1 := a113 H G hn hl
  refine AV_wp (Y (244, d244) (by simp [ly])) rfl ?_
  (repeat' first
    | refine w_seq ?_ | refine w_rg ?_ | refine wo_nil ?_ | refine g_skU ?_
    | ((first | apply s_plain | apply s_void | apply s_guard); · simp only [go_sem, Nat.reduceEqDiff, Nat.reduceAdd, Nat.reduceLeDiff, h1]; (first | done | rfl))
    | ((first | apply g_T | apply g_F); · intro hb; simp only [go_sem, Nat.reduceEqDiff, Nat.reduceAdd, Nat.reduceLeDiff, h1, hb]; (first | done | rfl))
    | ((first | apply g_gT | apply g_gF); · intro hb hc; simp only [go_sem, Nat.reduceEqDiff, Nat.reduceAdd, Nat.reduceLeDiff, h1, hb, hc]; (first | done | rfl))
    | refine g_skT ?_ | refine g_skF ?_
    | ((first | apply g_goT | apply g_goF); · simp only [go_sem, Nat.reduceEqDiff, Nat.reduceAdd, Nat.reduceLeDiff, h1]; (first | done | rfl))
    )
  cases hr : rightL l with
  | false =>
    (repeat' first
    | refine w_seq ?_ | refine w_rg ?_ | refine wo_nil ?_ | refine g_skU ?_
    | ((first | apply s_plain | apply s_void | apply s_guard); · simp only [go_sem, Nat.reduceEqDiff, Nat.reduceAdd, Nat.reduceLeDiff]; (first | done | rfl))
    | ((first | apply g_T | apply g_F); · intro hb; simp only [go_sem, Nat.reduceEqDiff, Nat.reduceAdd, Nat.reduceLeDiff, hb]; (first | done | rfl))
    | ((first | apply g_gT | apply g_gF); · intro hb hc; simp only [go_sem, Nat.reduceEqDiff, Nat.reduceAdd, Nat.reduceLeDiff, hb, hc]; (first | done | rfl))
    | refine g_skT ?_ | refine g_skF ?_
    | ((first | apply g_goT | apply g_goF); · simp only [go_sem, Nat.reduceEqDiff, Nat.reduceAdd, Nat.reduceLeDiff]; (first | done | rfl))
    | (refine w_condT ?_ ?_; · simp only [go_sem, Nat.reduceEqDiff, Nat.reduceAdd, Nat.reduceLeDiff]; (first | done | rfl))
    | (refine w_condF ?_ ?_; · simp only [go_sem, Nat.reduceEqDiff, Nat.reduceAdd, Nat.reduceLeDiff]; (first | done | rfl))
    | refine w_skip ?_ | refine w_exit ?_ | refine w_ret ?_
    )
    exact ⟨.inr rfl, by simp only [go_sem, Nat.reduceEqDiff, Nat.reduceAdd, Nat.reduceLeDiff, retOf, resOf]; simp only [keptL, hr]; first | done | rfl⟩
  | true =>
    have k1 := right_len hr
    obtain ⟨r, σ1, h128, hg, hk⟩ := a128k (σ := St.nil.new 3 ⟨1, [.sl (strs ns)], true, true⟩) V (l := l) (by omega)
    have hm : σ1.m 3 0 = some ⟨1, [.sl (strs ns)], true, true⟩ := by rw [hk 3 0 (by decide)]; rfl
    obtain ⟨r2, σ2, h246, hz⟩ := a246 G X (by omega) hs Y hg hm
    (repeat' first
    | refine w_seq ?_ | refine w_rg ?_ | refine wo_nil ?_ | refine g_skU ?_
    | ((first | apply s_plain | apply s_void | apply s_guard); · simp only [go_sem, Nat.reduceEqDiff, Nat.reduceAdd, Nat.reduceLeDiff, h128]; (first | done | rfl))
    | ((first | apply g_T | apply g_F); · intro hb; simp only [go_sem, Nat.reduceEqDiff, Nat.reduceAdd, Nat.reduceLeDiff, h128, hb]; (first | done | rfl))
    | ((first | apply g_gT | apply g_gF); · intro hb hc; simp only [go_sem, Nat.reduceEqDiff, Nat.reduceAdd, Nat.reduceLeDiff, h128, hb, hc]; (first | done | rfl))
    | refine g_skT ?_ | refine g_skF ?_
    | ((first | apply g_goT | apply g_goF); · simp only [go_sem, Nat.reduceEqDiff, Nat.reduceAdd, Nat.reduceLeDiff, h128]; (first | done | rfl))
    | (refine w_condT ?_ ?_; · simp only [go_sem, Nat.reduceEqDiff, Nat.reduceAdd, Nat.reduceLeDiff, h128]; (first | done | rfl))
    | (refine w_condF ?_ ?_; · simp only [go_sem, Nat.reduceEqDiff, Nat.reduceAdd, Nat.reduceLeDiff, h128]; (first | done | rfl))
    | refine w_skip ?_ | refine w_exit ?_ | refine w_ret ?_
    )
    (repeat' first
    | refine w_seq ?_ | refine w_rg ?_ | refine wo_nil ?_ | refine g_skU ?_
    | ((first | apply s_plain | apply s_void | apply s_guard); · simp only [go_sem, Nat.reduceEqDiff, Nat.reduceAdd, Nat.reduceLeDiff, h246]; (first | done | rfl))
    | ((first | apply g_T | apply g_F); · intro hb; simp only [go_sem, Nat.reduceEqDiff, Nat.reduceAdd, Nat.reduceLeDiff, h246, hb]; (first | done | rfl))
    | ((first | apply g_gT | apply g_gF); · intro hb hc; simp only [go_sem, Nat.reduceEqDiff, Nat.reduceAdd, Nat.reduceLeDiff, h246, hb, hc]; (first | done | rfl))
    | refine g_skT ?_ | refine g_skF ?_
    | ((first | apply g_goT | apply g_goF); · simp only [go_sem, Nat.reduceEqDiff, Nat.reduceAdd, Nat.reduceLeDiff, h246]; (first | done | rfl))
    | (refine w_condT ?_ ?_; · simp only [go_sem, Nat.reduceEqDiff, Nat.reduceAdd, Nat.reduceLeDiff, h246]; (first | done | rfl))
    | (refine w_condF ?_ ?_; · simp only [go_sem, Nat.reduceEqDiff, Nat.reduceAdd, Nat.reduceLeDiff, h246]; (first | done | rfl))
    | refine w_skip ?_ | refine w_exit ?_ | refine w_ret ?_
    )
    exact ⟨.inr rfl, by simp only [go_sem, Nat.reduceEqDiff, Nat.reduceAdd, Nat.reduceLeDiff, retOf, resOf, fz_tu, hz]; simp only [keptL, hr, if_true]; first | done | rfl⟩
end
end Go.Proofs.YtjijlmfhnkipmaaDoorPv
namespace Go.Proofs.YtjijlmfhnkipmaaDoorPv
open Go
set_option linter.unusedSimpArgs false
set_option linter.unusedVariables false
set_option maxHeartbeats 4000000
attribute [local go_sem ↓] e_mv e_pick e_bin e_eqs e_beq e_un e_cvi e_str e_s2b e_b2s e_box e_build e_bsl e_ld e_st e_nck e_mkf e_slcS e_slcL e_fa e_fld e_ia e_iaa e_ix e_ixa e_ext e_lenS e_lenL e_mnmx e_app e_appb e_bbx e_msl e_clr e_call e_callv pa_t pa_c pa_f slcSP_str hiOf_some hiOf_none loOf_some loOf_none set_eq set_ne
attribute [local go_sem] pv pv1 simple frOf_0 frOf_1 frOf_2 frOf_3 frOf_4 frOf_5 ne_eq not_false_eq_true if_true Bool.false_eq_true if_false pbin punary Option.map_some Option.bind_some pick_and pick_or opt_true Bool.true_and Bool.and_self Bool.and_true Bool.true_or Bool.false_or Bool.not_true Bool.not_false callE pcall_eq List.map_cons List.map_nil List.append_nil List.nil_append List.cons_append mapM_cons' mapM_nil' dep_eq fz_sc fz_sl fz_em fz_fn fz_fp fz_agg fz_bx fz_ob Nat.lt_irrefl Nat.zero_lt_one Nat.lt_add_one flat clL cl Bool.or_true okc cells_agg cells_sc cells_sl cells_em cells_ob cells_fn cells_bx cells_fp List.length_cons List.length_nil Nat.zero_add and_self true_and and_true new_m new_c put_m put_c nil_m nil_c deref List.getElem?_cons_zero List.getElem?_cons_succ List.drop_zero List.drop_succ_cons List.take_succ_cons List.take_zero Nat.le_refl false_and and_false
set_option maxRecDepth 8000
theorem toList_inj {a b : ByteArray} (h : a.toList = b.toList) : a = b := by
  rw [ByteArray.toList_eq, ByteArray.toList_eq] at h
  exact Go.WideShapes.bytes_inj h
theorem names_of (l : List Lab) (i : Nat) (n : ByteArray) : isN l n i = true ↔ (nth l i).1 = n := by
  unfold isN
  rw [beq_iff_eq]
  exact ⟨toList_inj, fun h => by rw [h]⟩
theorem rising_unique {l l' : List Lab} (h1 : Rising l) (h2 : Rising l') (hp : l.Perm l') : l = l' :=
  List.Perm.eq_of_pairwise (fun a b _ _ hab hba => by
    have := lessB_trans hab hba
    rw [lessB_irrefl] at this
    cases this) h1 h2 hp
theorem sorted_id {l : List Lab} (h : Rising l) : sortedL l = l := rising_unique (sorted_rising h.apart) h (sorted_perm l)
theorem Apart.perm {l l' : List Lab} (h : Apart l) (hp : l.Perm l') : Apart l' := (hp.pairwise_iff (fun h => Ne.symm h)).1 h
theorem sorted_perm_eq {l l' : List Lab} (h : Apart l) (hp : l.Perm l') : sortedL l = sortedL l' :=
  rising_unique (sorted_rising h) (sorted_rising (h.perm hp)) ((sorted_perm l).trans (hp.trans (sorted_perm l').symm))
theorem get_hit {l : List Lab} (h : Apart l) {m : Lab} (hm : m ∈ l) : getB l m.1 = m.2 := by
  obtain ⟨i, hi, rfl⟩ := List.getElem_of_mem hm
  obtain ⟨j, h1, h2, h3⟩ := found_is (p := isN l l[i].1) hi ((names_of _ _ _).2 (by rw [nth_eq hi]))
  rw [names_of, nth_eq h2] at h3
  have hij : j = i := by
    rcases Nat.lt_trichotomy j i with hlt | he | hgt
    · exact absurd h3 (List.pairwise_iff_getElem.1 h j i h2 hi hlt)
    · exact he
    · exact absurd h3.symm (List.pairwise_iff_getElem.1 h i j hi h2 hgt)
  subst hij
  unfold getB
  rw [h1, if_neg (by omega)]
  show (nth l ((j : Int)).toNat).2 = _
  rw [Int.toNat_natCast, nth_eq hi]
theorem get_miss {l : List Lab} {n : ByteArray} (h : ∀ m ∈ l, m.1 ≠ n) : getB l n = ⟨#[]⟩ := by
  unfold getB
  rw [found_none fun j hj => ?_]
  · rfl
  · cases hb : isN l n j with
    | false => rfl
    | true =>
      rw [names_of, nth_eq hj] at hb
      exact absurd hb (h _ (List.getElem_mem hj))
theorem hasN_iff {ns : List ByteArray} {s : ByteArray} : hasN ns s = true ↔ s ∈ ns := by
  rw [← anyN_all]
  unfold anyN
  rw [List.take_of_length_le (Nat.le_refl _), List.any_eq_true]
  constructor
  · rintro ⟨n, hn, he⟩
    rw [beq_iff_eq] at he
    exact toList_inj he ▸ hn
  · exact fun h => ⟨s, h, by simp⟩
theorem get_over {a b : List Lab} (h1 : rightL a = true) (h2 : rightL b = true) (n : ByteArray) : getB (sortedL (overL a b)) n = if ((getB b n).toList == (⟨#[]⟩ : ByteArray).toList) = true then getB a n else getB b n := by
  have hap := (over_apart h1 h2).perm (sorted_perm _).symm
  obtain ⟨m1, r1, _⟩ := right_iff.1 h1
  obtain ⟨m2, r2, _⟩ := right_iff.1 h2
  have hin : ∀ m, m ∈ overL a b → m ∈ sortedL (overL a b) := fun m hm => (sorted_perm _).symm.subset hm
  by_cases hb : ∃ m ∈ b, m.1 = n
  · obtain ⟨m, hm, rfl⟩ := hb
    rw [get_hit r2.apart hm, if_neg (by rw [may_value (m2 m hm)]; decide), get_hit hap (hin m (by simp [overL, hm]))]
  · have hbn : getB b n = ⟨#[]⟩ := get_miss fun m hm he => hb ⟨m, hm, he⟩
    rw [hbn, if_pos (by simp)]
    by_cases ha : ∃ m ∈ a, m.1 = n
    · obtain ⟨m, hm, rfl⟩ := ha
      have hmiss : missB b m = true := by unfold missB; rw [hbn]; simp
      rw [get_hit r1.apart hm, get_hit hap (hin m (by simp [overL, hm, hmiss]))]
    · rw [get_miss fun m hm he => ha ⟨m, hm, he⟩, get_miss fun m hm he => ?_]
      have := (sorted_perm _).subset hm
      simp only [overL, List.mem_append, List.mem_filter] at this
      rcases this with h | h
      · exact hb ⟨m, h, he⟩
      · exact ha ⟨m, h.1, he⟩
theorem keep_all (a : List Lab) : keepL a (a.map (·.1)) = a := by
  unfold keepL
  rw [List.filter_eq_self]
  exact fun m hm => hasN_iff.2 (List.mem_map.2 ⟨m, hm, rfl⟩)
theorem keep_none (a : List Lab) : keepL a [] = [] := by
  unfold keepL
  rw [List.filter_eq_nil_iff]
  intro m _ h
  have := hasN_iff.1 h
  simp at this
theorem over_miss {a b : List Lab} (h : ∀ m ∈ a, missB b m = true) : overL a b = b ++ a := by
  unfold overL
  rw [List.filter_eq_self.2 h]
/-- Names that the one has not: nor has the other one those of the one. -/
theorem miss_sym {a b : List Lab} (h1 : rightL a = true) (h2 : rightL b = true) (h : ∀ m ∈ a, missB b m = true) : ∀ m ∈ b, missB a m = true := by
  intro m hm
  obtain ⟨m1, r1, _⟩ := right_iff.1 h1
  obtain ⟨m2, r2, _⟩ := right_iff.1 h2
  unfold missB
  rw [get_miss fun x hx he => ?_]
  · simp
  · exact miss_apart m2 (h x hx) hm he.symm
theorem with_apart {a b : List Lab} (h : ∀ m ∈ a, missB b m = true) : withL a b = withL b a := by
  cases h1 : rightL a with
  | false => unfold withL; rw [h1]; simp
  | true =>
    cases h2 : rightL b with
    | false => unfold withL; rw [h2]; simp
    | true =>
      have h' := miss_sym h1 h2 h
      rw [withL_right h1 h2, withL_right h2 h1]
      have hp : (overL a b).Perm (overL b a) := by rw [over_miss h, over_miss h']; exact List.perm_append_comm
      rw [hp.length_eq, sorted_perm_eq (over_apart h1 h2) hp]
theorem keep_apart {a b : List Lab} (h1 : rightL a = true) (h2 : rightL b = true) (h : ∀ m ∈ a, missB b m = true) : keepL (sortedL (overL a b)) (a.map (·.1)) = a := by
  obtain ⟨m1, r1, _⟩ := right_iff.1 h1
  obtain ⟨m2, r2, _⟩ := right_iff.1 h2
  refine rising_unique ((sorted_rising (over_apart h1 h2)).sublist List.filter_sublist) r1 ?_
  refine ((sorted_perm _).filter _).trans ?_
  rw [over_miss h, List.filter_append]
  have e1 : b.filter (fun m => hasN (a.map (·.1)) m.1) = [] := by
    rw [List.filter_eq_nil_iff]
    intro m hm hh
    obtain ⟨x, hx, he⟩ := List.mem_map.1 (hasN_iff.1 hh)
    exact miss_apart m2 (h x hx) hm he.symm
  have e2 : a.filter (fun m => hasN (a.map (·.1)) m.1) = a := keep_all a
  rw [e1, e2, List.nil_append]
theorem keep_right {l : List Lab} (h : rightL l = true) (ns : List ByteArray) : rightL (keepL l ns) = true := by
  obtain ⟨m1, r1, h8⟩ := right_iff.1 h
  refine right_iff.2 ⟨fun m hm => m1 m (List.mem_filter.1 hm).1, r1.sublist List.filter_sublist, ?_⟩
  have := keepL_len l ns
  omega
theorem keep_twice (l : List Lab) (ns : List ByteArray) : keepL (keepL l ns) ns = keepL l ns := by
  unfold keepL
  rw [List.filter_filter]
  congr 1
  funext m
  simp
/-- Labels of x that k has no value of. -/
def restL (x k : List Lab) : List Lab := x.filter (missB k)
theorem rest_keep {x : List Lab} (h : rightL x = true) (ns : List ByteArray) : keepL x ((restL x (keepL x ns)).map (·.1)) = restL x (keepL x ns) := by
  obtain ⟨m1, r1, _⟩ := right_iff.1 h
  unfold keepL restL
  apply List.filter_congr
  intro m hm
  rw [Bool.eq_iff_iff, hasN_iff]
  constructor
  · intro hh
    obtain ⟨y, hy, he⟩ := List.mem_map.1 hh
    obtain ⟨hy1, hy2⟩ := List.mem_filter.1 hy
    have : y = m := by
      obtain ⟨i, hi, rfl⟩ := List.getElem_of_mem hy1
      obtain ⟨j, hj, rfl⟩ := List.getElem_of_mem hm
      have hij : i = j := by
        rcases Nat.lt_trichotomy i j with hlt | he' | hgt
        · exact absurd he (List.pairwise_iff_getElem.1 r1.apart i j hi hj hlt)
        · exact he'
        · exact absurd he.symm (List.pairwise_iff_getElem.1 r1.apart j i hj hi hgt)
      subst hij
      rfl
    rw [← this]
    exact hy2
  · intro hh
    exact List.mem_map.2 ⟨m, List.mem_filter.2 ⟨hm, hh⟩, rfl⟩
theorem rest_with {x : List Lab} (h : rightL x = true) (ns : List ByteArray) : withL (restL x (keepL x ns)) (keepL x ns) = (x, 0) := by
  obtain ⟨m1, r1, h8⟩ := right_iff.1 h
  have hk := keep_right h ns
  have hr : rightL (restL x (keepL x ns)) = true :=
    right_iff.2 ⟨fun m hm => m1 m (List.mem_filter.1 hm).1, r1.sublist List.filter_sublist, Nat.le_trans (List.length_filter_le _ _) h8⟩
  have hov : overL (restL x (keepL x ns)) (keepL x ns) = keepL x ns ++ restL x (keepL x ns) := over_miss fun m hm => (List.mem_filter.1 hm).2
  have hrest : restL x (keepL x ns) = x.filter (fun m => !hasN ns m.1) := by
    unfold restL
    apply List.filter_congr
    intro m hm
    cases hh : hasN ns m.1 with
    | true =>
      have hmk : m ∈ keepL x ns := List.mem_filter.2 ⟨hm, hh⟩
      unfold missB
      rw [get_hit ((right_iff.1 hk).2.1.apart) hmk, may_value (m1 m hm)]
      rfl
    | false =>
      unfold missB
      rw [get_miss fun y hy he => ?_]
      · simp
      · have := (List.mem_filter.1 hy).2
        rw [he, hh] at this
        cases this
  have hp : (overL (restL x (keepL x ns)) (keepL x ns)).Perm x := by
    rw [hov, hrest]
    exact List.filter_append_perm _ _
  have hlen := hp.length_eq
  rw [withL_right hr hk, if_neg (by omega), sorted_perm_eq ((over_apart hr hk)) hp, sorted_id r1]
theorem wrong_perm {l l' : List Lab} (hp : l.Perm l') : wrongB l = wrongB l' := by
  have key : ∀ l : List Lab, wrongB l = true ↔ ∃ m ∈ l, mayB m = false := by
    intro l
    unfold wrongB
    rw [decide_eq_true_iff]
    constructor
    · intro h
      rcases found_cases (fun i => !mayB (nth l i)) l.length with h0 | ⟨i, h0⟩
      · omega
      · obtain ⟨h1, h2, _⟩ := found_min h0
        rw [nth_eq h1] at h2
        exact ⟨_, List.getElem_mem h1, by simpa using h2⟩
    · rintro ⟨m, hm, he⟩
      obtain ⟨i, hi, rfl⟩ := List.getElem_of_mem hm
      obtain ⟨j, h1, _⟩ := found_is (p := fun i => !mayB (nth l i)) hi (by rw [nth_eq hi, he]; rfl)
      rw [h1]; omega
  rw [Bool.eq_iff_iff, key, key]
  exact ⟨fun ⟨m, hm, he⟩ => ⟨m, hp.subset hm, he⟩, fun ⟨m, hm, he⟩ => ⟨m, hp.symm.subset hm, he⟩⟩
theorem new_perm {l l' : List Lab} (hp : l.Perm l') : newL l = newL l' := by
  unfold newL
  rw [hp.length_eq, wrong_perm hp]
  have hr : ∀ {l l' : List Lab}, l.Perm l' → rightL (sortedL l) = true → sortedL l = sortedL l' := fun {l l'} hp h => by
    have hap : Apart l := ((right_iff.1 h).2.1.apart).perm (sorted_perm l)
    exact sorted_perm_eq hap hp
  cases h1 : rightL (sortedL l) with
  | true => rw [← hr hp h1, h1]
  | false =>
    cases h2 : rightL (sortedL l') with
    | true => rw [← hr hp.symm h2, h2] at h1; cases h1
    | false => rfl
theorem new_err (l : List Lab) (h : (newL l).2 ≠ 0) : (newL l).1 = [] := by
  revert h
  unfold newL
  split
  · exact fun _ => rfl
  · split
    · exact fun _ => rfl
    · split
      · exact fun h => absurd rfl h
      · exact fun _ => rfl
theorem new_right {x : List Lab} (h : rightL x = true) : newL x = (x, 0) := by
  obtain ⟨m1, r1, h8⟩ := right_iff.1 h
  unfold newL
  rw [if_neg (by omega), wrong_none m1, sorted_id r1, h]
  rfl
theorem names_succ {l : List Lab} {i : Nat} (hi : i < l.length) : strs ((l.take (i + 1)).map (·.1)) = strs ((l.take i).map (·.1)) ++ [.sc (.string l[i].1)] := by
  rw [List.take_succ_eq_append_getElem hi]
  unfold strs
  rw [List.map_append, List.map_append]
  rfl
theorem names_len (l : List Lab) (i : Nat) : (strs ((l.take i).map (·.1))).length ≤ l.length := by
  rw [strs_len, List.length_map, List.length_take]; omega
theorem with_codes (a b : List Lab) (h : (withL a b).2 ≠ 0) : (withL a b).2 = 1 ∨ (withL a b).2 = 2 := by
  cases h1 : rightL a with
  | false => left; unfold withL; rw [h1]; rfl
  | true =>
    cases h2 : rightL b with
    | false => left; unfold withL; rw [h2]; simp
    | true =>
      rw [withL_right h1 h2] at h ⊢
      split
      · right; rfl
      · rename_i h8; rw [if_neg h8] at h; exact absurd rfl h
theorem with_err (a b : List Lab) (h : (withL a b).2 ≠ 0) : (withL a b).1 = [] := by
  unfold withL at h ⊢
  split
  · rfl
  · rename_i hc; rw [if_neg hc] at h; exact new_err _ h
theorem with_zero {a b : List Lab} (h : (withL a b).2 = 0) : rightL a = true ∧ rightL b = true ∧ withL a b = (sortedL (overL a b), 0) ∧ (overL a b).length ≤ 8 := by
  cases h1 : rightL a with
  | false => unfold withL at h; rw [h1] at h; simp at h
  | true =>
    cases h2 : rightL b with
    | false => unfold withL at h; rw [h2] at h; simp at h
    | true =>
      rw [withL_right h1 h2] at h ⊢
      split
      · rename_i h8; rw [if_pos h8] at h; simp at h
      · exact ⟨rfl, rfl, rfl, by omega⟩
theorem same_refl (a : List Lab) : sameL a a = true := by unfold sameL; exact decide_eq_true rfl
end Go.Proofs.YtjijlmfhnkipmaaDoorPv
namespace Go.Proofs.YtjijlmfhnkipmaaDoorPv
open Go
set_option linter.unusedSimpArgs false
set_option linter.unusedVariables false
set_option maxHeartbeats 4000000
attribute [local go_sem ↓] e_mv e_pick e_bin e_eqs e_beq e_un e_cvi e_str e_s2b e_b2s e_box e_build e_bsl e_ld e_st e_nck e_mkf e_slcS e_slcL e_fa e_fld e_ia e_iaa e_ix e_ixa e_ext e_lenS e_lenL e_mnmx e_app e_appb e_bbx e_msl e_clr e_call e_callv pa_t pa_c pa_f slcSP_str hiOf_some hiOf_none loOf_some loOf_none set_eq set_ne
attribute [local go_sem] pv pv1 simple frOf_0 frOf_1 frOf_2 frOf_3 frOf_4 frOf_5 ne_eq not_false_eq_true if_true Bool.false_eq_true if_false pbin punary Option.map_some Option.bind_some pick_and pick_or opt_true Bool.true_and Bool.and_self Bool.and_true Bool.true_or Bool.false_or Bool.not_true Bool.not_false callE pcall_eq List.map_cons List.map_nil List.append_nil List.nil_append List.cons_append mapM_cons' mapM_nil' dep_eq fz_sc fz_sl fz_em fz_fn fz_fp fz_agg fz_bx fz_ob Nat.lt_irrefl Nat.zero_lt_one Nat.lt_add_one flat clL cl Bool.or_true okc cells_agg cells_sc cells_sl cells_em cells_ob cells_fn cells_bx cells_fp List.length_cons List.length_nil Nat.zero_add and_self true_and and_true new_m new_c put_m put_c nil_m nil_c deref List.getElem?_cons_zero List.getElem?_cons_succ List.drop_zero List.drop_succ_cons List.take_succ_cons List.take_zero Nat.le_refl false_and and_false
set_option maxRecDepth 8000
/-- transhipment/transhipmentlaw03.LabelApart -/
def d239 : Def := (.code 2 [.tmp 4] (.seq (.rg false [⟨.some 4, .none, .mv (.c (.bool false))⟩]) (.seq (.rg false [⟨.some 14, .none, .mv (.t 0)⟩, ⟨.some 15, .none, .call 241 .pure [.t 14]⟩, ⟨.some 16, .none, .mv (.t 1)⟩, ⟨.some 17, .none, .call 241 .pure [.t 16]⟩, ⟨.some 0, .none, .mv (.t 15)⟩, ⟨.some 1, .none, .mv (.t 17)⟩]) (.seq (.rg false [⟨.some 5, .none, .mv (.c (.slice .none 0 0))⟩]) (.seq (.seq (.rg false [⟨.some 18, .none, .mv (.t 0)⟩, ⟨.some 19, .none, .lenL (.t 18)⟩, ⟨.some 20, .none, .mv (.c (.int .i64 0))⟩]) (.block 0 (.loop (.seq (.rg false [⟨.some 21, .none, .bin .lss (.t 20) (.t 19)⟩]) (.seq (.cond (.t 21) .skip (.exit 0)) (.seq (.block 1 (.seq (.rg false [⟨.some 22, .none, .ia 2 (.t 18) (.t 20)⟩, ⟨.some 23, .none, .ld (.some 2) (.t 22)⟩, ⟨.some 7, .none, .box (.c (.agg #[.string ⟨#[]⟩, .string ⟨#[]⟩]))⟩, ⟨.none, .none, .st 2 (.t 7) (.t 23)⟩]) (.seq (.rg false [⟨.some 24, .none, .mv (.t 5)⟩, ⟨.some 25, .none, .fa 0 (.t 7)⟩, ⟨.some 26, .none, .ld .none (.t 25)⟩, ⟨.some 27, .none, .bsl 1 (.string ⟨#[]⟩) 1 [(0, .t 26)]⟩, ⟨.some 28, .none, .app 1 16 false (.t 24) (.t 27)⟩, ⟨.some 5, .none, .mv (.t 28)⟩]) (.seq (.rg false [⟨.some 29, .none, .mv (.t 1)⟩, ⟨.some 30, .none, .fa 0 (.t 7)⟩, ⟨.some 31, .none, .ld .none (.t 30)⟩, ⟨.some 32, .none, .call 114 .pure [.t 29, .t 31]⟩, ⟨.some 33, .none, .bin .neq (.t 32) (.c (.string ⟨#[]⟩))⟩]) (.cond (.t 33) (.seq (.rg false [⟨.some 34, .none, .call 240 .pure []⟩, ⟨.some 4, .none, .mv (.t 34)⟩]) .ret) .skip))))) (.rg false [⟨.some 35, .none, .bin .add (.t 20) (.c (.int .i64 1))⟩, ⟨.some 20, .none, .mv (.t 35)⟩]))))))) (.seq (.rg false [⟨.some 37, .none, .mv (.t 0)⟩, ⟨.some 38, .none, .mv (.t 1)⟩, ⟨.some 39, .none, .call 116 .pure [.t 37, .t 38]⟩, ⟨.some 36, .none, .mv (.t 39)⟩, ⟨.some 40, .none, .ext (.t 36) 0⟩, ⟨.some 41, .none, .ext (.t 36) 1⟩, ⟨.some 8, .none, .mv (.t 40)⟩, ⟨.some 9, .none, .mv (.t 41)⟩]) (.seq (.rg false [⟨.some 43, .none, .mv (.t 1)⟩, ⟨.some 44, .none, .mv (.t 0)⟩, ⟨.some 45, .none, .call 116 .pure [.t 43, .t 44]⟩, ⟨.some 42, .none, .mv (.t 45)⟩, ⟨.some 46, .none, .ext (.t 42) 0⟩, ⟨.some 47, .none, .ext (.t 42) 1⟩, ⟨.some 10, .none, .mv (.t 46)⟩, ⟨.some 11, .none, .mv (.t 47)⟩]) (.seq (.seq (.rg false [⟨.some 48, .none, .mv (.t 9)⟩, ⟨.some 49, .none, .mv (.t 11)⟩, ⟨.some 50, .none, .bin .neq (.t 48) (.t 49)⟩, ⟨.some 51, .none, .mv (.t 50)⟩, ⟨.some 52, .some (51, false), .mv (.t 8)⟩, ⟨.some 53, .some (51, false), .mv (.t 10)⟩, ⟨.some 54, .some (51, false), .call 192 .pure [.t 52, .t 53]⟩, ⟨.some 55, .some (51, false), .un .not (.t 54)⟩, ⟨.some 56, .none, .pick (.t 51) (.c (.bool true)) (.t 55)⟩, ⟨.some 57, .none, .mv (.t 56)⟩, ⟨.some 58, .some (57, false), .call 240 .pure []⟩, ⟨.some 59, .some (57, false), .un .not (.t 58)⟩, ⟨.some 60, .none, .pick (.t 57) (.c (.bool true)) (.t 59)⟩]) (.cond (.t 60) (.seq (.rg false [⟨.some 4, .none, .mv (.c (.bool false))⟩]) .ret) .skip)) (.seq (.seq (.rg false [⟨.some 61, .none, .mv (.t 9)⟩, ⟨.some 62, .none, .bin .neq (.t 61) (.c (.int .i64 0))⟩]) (.cond (.t 62) (.seq (.rg false [⟨.some 63, .none, .mv (.t 8)⟩, ⟨.some 64, .none, .lenL (.t 63)⟩, ⟨.some 65, .none, .bin .eql (.t 64) (.c (.int .i64 0))⟩, ⟨.some 4, .none, .mv (.t 65)⟩]) .ret) .skip)) (.seq (.rg false [⟨.some 67, .none, .mv (.t 8)⟩, ⟨.some 68, .none, .mv (.t 5)⟩, ⟨.some 69, .none, .call 244 .pure [.t 67, .t 68]⟩, ⟨.some 66, .none, .mv (.t 69)⟩, ⟨.some 70, .none, .ext (.t 66) 0⟩, ⟨.some 71, .none, .ext (.t 66) 1⟩, ⟨.some 12, .none, .mv (.t 70)⟩, ⟨.some 13, .none, .mv (.t 71)⟩]) (.seq (.rg false [⟨.some 72, .none, .mv (.t 13)⟩, ⟨.some 73, .none, .bin .eql (.t 72) (.c (.int .i64 0))⟩, ⟨.some 74, .none, .mv (.t 73)⟩, ⟨.some 75, .some (74, true), .mv (.t 12)⟩, ⟨.some 76, .some (74, true), .mv (.t 0)⟩, ⟨.some 77, .some (74, true), .call 192 .pure [.t 75, .t 76]⟩, ⟨.some 78, .none, .pick (.t 74) (.t 77) (.c (.bool false))⟩, ⟨.some 79, .none, .mv (.t 78)⟩, ⟨.some 80, .some (79, true), .mv (.t 8)⟩, ⟨.some 81, .some (79, true), .lenL (.t 80)⟩, ⟨.some 82, .some (79, true), .mv (.t 0)⟩, ⟨.some 83, .some (79, true), .lenL (.t 82)⟩, ⟨.some 84, .some (79, true), .mv (.t 1)⟩, ⟨.some 85, .some (79, true), .lenL (.t 84)⟩, ⟨.some 86, .some (79, true), .bin .add (.t 83) (.t 85)⟩, ⟨.some 87, .some (79, true), .bin .eql (.t 81) (.t 86)⟩, ⟨.some 88, .none, .pick (.t 79) (.t 87) (.c (.bool false))⟩, ⟨.some 4, .none, .mv (.t 88)⟩]) .ret)))))))))))
def ltc : List (Nat × Def) := [(239, d239)]
section
variable {env : Nat → Option Def} {fr : Fr} {σ σ' : St} {K : Fr → St → Prop} {Q : X → Fr → St → Prop}
theorem a239 (H : Has la0 env) (G : Has lc env) (N : Has ln0 env) (O : Has lo env) (P : Has lp env) (V : Has lq0 env) (W : Has lw env) (X : Has lx env) (Y : Has ly env) (T : Has ltc env) (B : Bits env)
    (hal : AV env 240 [] = some (.sc (.bool true))) {l m : List Lab} (hl : l.length ≤ 9223372036854775807) (ho : m.length ≤ 9223372036854775807) :
    AV env 239 [.sl (labs l), .sl (labs m)] = some (.sc (.bool true)) := by
  have g1 := few_g (W (241, d108) (by simp [lw])) hl
  have g2 := few_g (W (241, d108) (by simp [lw])) ho
  have k1 : (fewL l).length ≤ 10 := by rw [fewL_len]; omega
  have k2 : (fewL m).length ≤ 10 := by rw [fewL_len]; omega
  have s1 := fewL_smalls l
  have s2 := fewL_smalls m
  generalize fewL l = a at g1 k1 s1
  generalize fewL m = b at g2 k2 s2
  have h116 := a116 H G O P V B (l := a) (over := b) (by omega) s1 (by omega) s2
  have h116' := a116 H G O P V B (l := b) (over := a) (by omega) s2 (by omega) s1
  have hla := labs_len a
  have hlb := labs_len b
  refine AV_wp (T (239, d239) (by simp [ltc])) rfl ?_
  (repeat' first
    | refine w_seq ?_ | refine w_rg ?_ | refine wo_nil ?_ | refine g_skU ?_
    | ((first | apply s_plain | apply s_void | apply s_guard); · simp only [go_sem, Nat.reduceEqDiff, Nat.reduceAdd, Nat.reduceLeDiff, g1, g2, hla]; (first | done | rfl))
    | ((first | apply g_T | apply g_F); · intro hb; simp only [go_sem, Nat.reduceEqDiff, Nat.reduceAdd, Nat.reduceLeDiff, g1, g2, hla, hb]; (first | done | rfl))
    | ((first | apply g_gT | apply g_gF); · intro hb hc; simp only [go_sem, Nat.reduceEqDiff, Nat.reduceAdd, Nat.reduceLeDiff, g1, g2, hla, hb, hc]; (first | done | rfl))
    | refine g_skT ?_ | refine g_skF ?_
    | ((first | apply g_goT | apply g_goF); · simp only [go_sem, Nat.reduceEqDiff, Nat.reduceAdd, Nat.reduceLeDiff, g1, g2, hla]; (first | done | rfl))
    )
  refine w_block (w_range a.length (by omega) (fun i fr σ => fr 0 = .sl (labs a) ∧ fr 1 = .sl (labs b) ∧ fr 18 = .sl (labs a) ∧ Gat σ [28] 1 false (fr 5) (strs ((a.take i).map (·.1))) ∧ ∀ x ∈ a.take i, missB b x = true) (by decide) ?_ ?_ ?_ _ _ ?_ ?_ ?_)
  · rintro i fr σ v ⟨h0, h1, h2, h3, h4⟩
    refine ⟨⟨?_, ?_, ?_, ?_, h4⟩, ⟨?_, ?_, ?_, ?_, h4⟩, ⟨?_, ?_, ?_, ?_, h4⟩⟩ <;> simp only [go_sem, Nat.reduceEqDiff, Nat.reduceAdd, Nat.reduceLeDiff, h0, h1, h2, h3]
  · rintro i fr σ hi ⟨f0, f1, f18, hg, hmiss⟩ hti htn
    have hy := labs_at (List.getElem?_eq_getElem hi)
    have e1 : (0 : Int) ≤ (i : Int) ∧ (i : Int) < (a.length : Int) := by omega
    have hlen := names_len a i
    have h114 := a114 G (l := b) (n := a[i].1) (by omega)
    refine w_block ?_
    simp only [lab] at hy
    (repeat' first
    | refine w_seq ?_ | refine w_rg ?_ | refine wo_nil ?_ | refine g_skU ?_
    | ((first | apply s_plain | apply s_void | apply s_guard); · simp only [go_sem, Nat.reduceEqDiff, Nat.reduceAdd, Nat.reduceLeDiff, f18, hti, e1, hla, Int.toNat_natCast, hy, List.modify_zero_cons, fillE, List.replicate_succ, List.replicate_zero, List.set_cons_zero]; (first | done | rfl))
    | ((first | apply g_T | apply g_F); · intro hb; simp only [go_sem, Nat.reduceEqDiff, Nat.reduceAdd, Nat.reduceLeDiff, f18, hti, e1, hla, Int.toNat_natCast, hy, List.modify_zero_cons, fillE, List.replicate_succ, List.replicate_zero, List.set_cons_zero, hb]; (first | done | rfl))
    | ((first | apply g_gT | apply g_gF); · intro hb hc; simp only [go_sem, Nat.reduceEqDiff, Nat.reduceAdd, Nat.reduceLeDiff, f18, hti, e1, hla, Int.toNat_natCast, hy, List.modify_zero_cons, fillE, List.replicate_succ, List.replicate_zero, List.set_cons_zero, hb, hc]; (first | done | rfl))
    | refine g_skT ?_ | refine g_skF ?_
    | ((first | apply g_goT | apply g_goF); · simp only [go_sem, Nat.reduceEqDiff, Nat.reduceAdd, Nat.reduceLeDiff, f18, hti, e1, hla, Int.toNat_natCast, hy, List.modify_zero_cons, fillE, List.replicate_succ, List.replicate_zero, List.set_cons_zero]; (first | done | rfl))
    )
    refine s_gatL (os := [28]) (w := false) (ys := [.sc (.string a[i].1)]) (by simp only [go_sem, Nat.reduceEqDiff, Nat.reduceAdd, Nat.reduceLeDiff]; exact ((hg.new _).put (d := 7) (by decide) _).new _) (by simp only [go_sem, Nat.reduceEqDiff, Nat.reduceAdd, Nat.reduceLeDiff, srcOf, elemsOf, List.drop_zero]) rfl (by simp only [List.length_cons, List.length_nil]; omega) ?_
    intro p σ' hg2 kp
    simp only [Bool.false_and] at hg2
    rw [← names_succ hi] at hg2
    have hm7 := kp.m 7 (σ.c 7) (by decide) (by simp [new_c, put_c])
    simp only [go_sem, Nat.reduceEqDiff, Nat.reduceAdd, Nat.reduceLeDiff] at hm7
    (repeat' first
    | refine w_seq ?_ | refine w_rg ?_ | refine wo_nil ?_ | refine g_skU ?_
    | ((first | apply s_plain | apply s_void | apply s_guard); · simp only [go_sem, Nat.reduceEqDiff, Nat.reduceAdd, Nat.reduceLeDiff, f1, hm7, h114]; (first | done | rfl))
    | ((first | apply g_T | apply g_F); · intro hb; simp only [go_sem, Nat.reduceEqDiff, Nat.reduceAdd, Nat.reduceLeDiff, f1, hm7, h114, hb]; (first | done | rfl))
    | ((first | apply g_gT | apply g_gF); · intro hb hc; simp only [go_sem, Nat.reduceEqDiff, Nat.reduceAdd, Nat.reduceLeDiff, f1, hm7, h114, hb, hc]; (first | done | rfl))
    | refine g_skT ?_ | refine g_skF ?_
    | ((first | apply g_goT | apply g_goF); · simp only [go_sem, Nat.reduceEqDiff, Nat.reduceAdd, Nat.reduceLeDiff, f1, hm7, h114]; (first | done | rfl))
    )
    have hmi : missB b a[i] = ((getB b a[i].1).toList == (⟨#[]⟩ : ByteArray).toList) := rfl
    cases hb : missB b a[i] with
    | false =>
      rw [hmi] at hb
      (repeat' first
    | refine w_seq ?_ | refine w_rg ?_ | refine wo_nil ?_ | refine g_skU ?_
    | ((first | apply s_plain | apply s_void | apply s_guard); · simp only [go_sem, Nat.reduceEqDiff, Nat.reduceAdd, Nat.reduceLeDiff, hb]; (first | done | rfl))
    | ((first | apply g_T | apply g_F); · intro hb; simp only [go_sem, Nat.reduceEqDiff, Nat.reduceAdd, Nat.reduceLeDiff, hb, hb]; (first | done | rfl))
    | ((first | apply g_gT | apply g_gF); · intro hb hc; simp only [go_sem, Nat.reduceEqDiff, Nat.reduceAdd, Nat.reduceLeDiff, hb, hb, hc]; (first | done | rfl))
    | refine g_skT ?_ | refine g_skF ?_
    | ((first | apply g_goT | apply g_goF); · simp only [go_sem, Nat.reduceEqDiff, Nat.reduceAdd, Nat.reduceLeDiff, hb]; (first | done | rfl))
    | (refine w_condT ?_ ?_; · simp only [go_sem, Nat.reduceEqDiff, Nat.reduceAdd, Nat.reduceLeDiff, hb]; (first | done | rfl))
    | (refine w_condF ?_ ?_; · simp only [go_sem, Nat.reduceEqDiff, Nat.reduceAdd, Nat.reduceLeDiff, hb]; (first | done | rfl))
    | refine w_skip ?_ | refine w_exit ?_ | refine w_ret ?_
    )
      (repeat' first
    | refine w_seq ?_ | refine w_rg ?_ | refine wo_nil ?_ | refine g_skU ?_
    | ((first | apply s_plain | apply s_void | apply s_guard); · simp only [go_sem, Nat.reduceEqDiff, Nat.reduceAdd, Nat.reduceLeDiff, hal]; (first | done | rfl))
    | ((first | apply g_T | apply g_F); · intro hb; simp only [go_sem, Nat.reduceEqDiff, Nat.reduceAdd, Nat.reduceLeDiff, hal, hb]; (first | done | rfl))
    | ((first | apply g_gT | apply g_gF); · intro hb hc; simp only [go_sem, Nat.reduceEqDiff, Nat.reduceAdd, Nat.reduceLeDiff, hal, hb, hc]; (first | done | rfl))
    | refine g_skT ?_ | refine g_skF ?_
    | ((first | apply g_goT | apply g_goF); · simp only [go_sem, Nat.reduceEqDiff, Nat.reduceAdd, Nat.reduceLeDiff, hal]; (first | done | rfl))
    | (refine w_condT ?_ ?_; · simp only [go_sem, Nat.reduceEqDiff, Nat.reduceAdd, Nat.reduceLeDiff, hal]; (first | done | rfl))
    | (refine w_condF ?_ ?_; · simp only [go_sem, Nat.reduceEqDiff, Nat.reduceAdd, Nat.reduceLeDiff, hal]; (first | done | rfl))
    | refine w_skip ?_ | refine w_exit ?_ | refine w_ret ?_
    )
      exact ⟨.inr rfl, by simp only [go_sem, Nat.reduceEqDiff, Nat.reduceAdd, Nat.reduceLeDiff, retOf, resOf]⟩
    | true =>
      have hb2 := hb
      rw [hmi] at hb
      (repeat' first
    | refine w_seq ?_ | refine w_rg ?_ | refine wo_nil ?_ | refine g_skU ?_
    | ((first | apply s_plain | apply s_void | apply s_guard); · simp only [go_sem, Nat.reduceEqDiff, Nat.reduceAdd, Nat.reduceLeDiff, hb]; (first | done | rfl))
    | ((first | apply g_T | apply g_F); · intro hb; simp only [go_sem, Nat.reduceEqDiff, Nat.reduceAdd, Nat.reduceLeDiff, hb, hb]; (first | done | rfl))
    | ((first | apply g_gT | apply g_gF); · intro hb hc; simp only [go_sem, Nat.reduceEqDiff, Nat.reduceAdd, Nat.reduceLeDiff, hb, hb, hc]; (first | done | rfl))
    | refine g_skT ?_ | refine g_skF ?_
    | ((first | apply g_goT | apply g_goF); · simp only [go_sem, Nat.reduceEqDiff, Nat.reduceAdd, Nat.reduceLeDiff, hb]; (first | done | rfl))
    | (refine w_condT ?_ ?_; · simp only [go_sem, Nat.reduceEqDiff, Nat.reduceAdd, Nat.reduceLeDiff, hb]; (first | done | rfl))
    | (refine w_condF ?_ ?_; · simp only [go_sem, Nat.reduceEqDiff, Nat.reduceAdd, Nat.reduceLeDiff, hb]; (first | done | rfl))
    | refine w_skip ?_ | refine w_exit ?_ | refine w_ret ?_
    )
      refine ⟨⟨?_, ?_, ?_, ?_, ?_⟩, ?_, ?_⟩
      · simp only [go_sem, Nat.reduceEqDiff, Nat.reduceAdd, Nat.reduceLeDiff, f0]
      · simp only [go_sem, Nat.reduceEqDiff, Nat.reduceAdd, Nat.reduceLeDiff, f1]
      · simp only [go_sem, Nat.reduceEqDiff, Nat.reduceAdd, Nat.reduceLeDiff, f18]
      · simp only [go_sem, Nat.reduceEqDiff, Nat.reduceAdd, Nat.reduceLeDiff]; exact hg2
      · intro x hx
        rw [List.take_succ_eq_append_getElem hi] at hx
        rcases List.mem_append.1 hx with hx | hx
        · exact hmiss x hx
        · rw [List.mem_singleton] at hx; rw [hx]; exact hb2
      · simp only [go_sem, Nat.reduceEqDiff, Nat.reduceAdd, Nat.reduceLeDiff, hti]
      · simp only [go_sem, Nat.reduceEqDiff, Nat.reduceAdd, Nat.reduceLeDiff, htn]
  · rintro fr σ ⟨f0, f1, f18, hg, hmiss⟩
    try simp only [if_true]
    rw [List.take_of_length_le (Nat.le_refl _)] at hg hmiss
    have hfz := hg.fz (strs_fz σ _)
    have hw := with_apart hmiss
    rw [← hw] at h116'
    by_cases he : (withL a b).2 = 0
    · obtain ⟨r1, r2, hw2, h8⟩ := with_zero he
      rw [hw2] at h116 h116'
      have hlx : (sortedL (overL a b)).length = a.length + b.length := by rw [sortedL_len, over_miss hmiss, List.length_append]; omega
      have hkx : keptL (sortedL (overL a b)) (a.map (·.1)) = (a, 0) := by unfold keptL; rw [sorted_right (over_may r1 r2) (over_apart r1 r2) h8, keep_apart r1 r2 hmiss]; rfl
      have h244 := a244 H G V X Y (l := sortedL (overL a b)) (by omega) (right_smalls (sorted_right (over_may r1 r2) (over_apart r1 r2) h8)) (ns := a.map (·.1)) (by simp; omega)
      rw [hkx] at h244
      have h192 := a192 N (a := sortedL (overL a b)) (b := sortedL (overL a b)) (by omega)
      rw [same_refl] at h192
      have h192a := a192 N (a := a) (b := a) (by omega)
      rw [same_refl] at h192a
      have hlx2 := labs_len (sortedL (overL a b))
      rw [hlx] at hlx2
      have hwr : IntKind.i64.wrap ((a.length : Int) + (b.length : Int)) = ((a.length + b.length : Nat) : Int) := by rw [IntKind.wrap_i64]; omega
      generalize sortedL (overL a b) = x at *
      (repeat' first
    | refine w_seq ?_ | refine w_rg ?_ | refine wo_nil ?_ | refine g_skU ?_
    | ((first | apply s_plain | apply s_void | apply s_guard); · simp only [go_sem, Nat.reduceEqDiff, Nat.reduceAdd, Nat.reduceLeDiff, f0, f1, h116, h116', h192, hal]; (first | done | rfl))
    | ((first | apply g_T | apply g_F); · intro hb; simp only [go_sem, Nat.reduceEqDiff, Nat.reduceAdd, Nat.reduceLeDiff, f0, f1, h116, h116', h192, hal, hb]; (first | done | rfl))
    | ((first | apply g_gT | apply g_gF); · intro hb hc; simp only [go_sem, Nat.reduceEqDiff, Nat.reduceAdd, Nat.reduceLeDiff, f0, f1, h116, h116', h192, hal, hb, hc]; (first | done | rfl))
    | refine g_skT ?_ | refine g_skF ?_
    | ((first | apply g_goT | apply g_goF); · simp only [go_sem, Nat.reduceEqDiff, Nat.reduceAdd, Nat.reduceLeDiff, f0, f1, h116, h116', h192, hal]; (first | done | rfl))
    | (refine w_condT ?_ ?_; · simp only [go_sem, Nat.reduceEqDiff, Nat.reduceAdd, Nat.reduceLeDiff, f0, f1, h116, h116', h192, hal]; (first | done | rfl))
    | (refine w_condF ?_ ?_; · simp only [go_sem, Nat.reduceEqDiff, Nat.reduceAdd, Nat.reduceLeDiff, f0, f1, h116, h116', h192, hal]; (first | done | rfl))
    | refine w_skip ?_ | refine w_exit ?_ | refine w_ret ?_
    )
      (repeat' first
    | refine w_seq ?_ | refine w_rg ?_ | refine wo_nil ?_ | refine g_skU ?_
    | ((first | apply s_plain | apply s_void | apply s_guard); · simp only [go_sem, Nat.reduceEqDiff, Nat.reduceAdd, Nat.reduceLeDiff]; (first | done | rfl))
    | ((first | apply g_T | apply g_F); · intro hb; simp only [go_sem, Nat.reduceEqDiff, Nat.reduceAdd, Nat.reduceLeDiff, hb]; (first | done | rfl))
    | ((first | apply g_gT | apply g_gF); · intro hb hc; simp only [go_sem, Nat.reduceEqDiff, Nat.reduceAdd, Nat.reduceLeDiff, hb, hc]; (first | done | rfl))
    | refine g_skT ?_ | refine g_skF ?_
    | ((first | apply g_goT | apply g_goF); · simp only [go_sem, Nat.reduceEqDiff, Nat.reduceAdd, Nat.reduceLeDiff]; (first | done | rfl))
    )
      refine s_call (as := [.sl (labs x), .sl (strs (a.map (·.1)))]) (by simp only [go_sem, Nat.reduceEqDiff, Nat.reduceAdd, Nat.reduceLeDiff, hfz]) h244 ?_
      intro σ1
      (repeat' first
    | refine w_seq ?_ | refine w_rg ?_ | refine wo_nil ?_ | refine g_skU ?_
    | ((first | apply s_plain | apply s_void | apply s_guard); · simp only [go_sem, Nat.reduceEqDiff, Nat.reduceAdd, Nat.reduceLeDiff, f0, f1, h192a, hla, hlb, hlx2, hwr]; (first | done | rfl))
    | ((first | apply g_T | apply g_F); · intro hb; simp only [go_sem, Nat.reduceEqDiff, Nat.reduceAdd, Nat.reduceLeDiff, f0, f1, h192a, hla, hlb, hlx2, hwr, hb]; (first | done | rfl))
    | ((first | apply g_gT | apply g_gF); · intro hb hc; simp only [go_sem, Nat.reduceEqDiff, Nat.reduceAdd, Nat.reduceLeDiff, f0, f1, h192a, hla, hlb, hlx2, hwr, hb, hc]; (first | done | rfl))
    | refine g_skT ?_ | refine g_skF ?_
    | ((first | apply g_goT | apply g_goF); · simp only [go_sem, Nat.reduceEqDiff, Nat.reduceAdd, Nat.reduceLeDiff, f0, f1, h192a, hla, hlb, hlx2, hwr]; (first | done | rfl))
    | (refine w_condT ?_ ?_; · simp only [go_sem, Nat.reduceEqDiff, Nat.reduceAdd, Nat.reduceLeDiff, f0, f1, h192a, hla, hlb, hlx2, hwr]; (first | done | rfl))
    | (refine w_condF ?_ ?_; · simp only [go_sem, Nat.reduceEqDiff, Nat.reduceAdd, Nat.reduceLeDiff, f0, f1, h192a, hla, hlb, hlx2, hwr]; (first | done | rfl))
    | refine w_skip ?_ | refine w_exit ?_ | refine w_ret ?_
    )
      refine ⟨.inr rfl, ?_⟩
      simp only [go_sem, Nat.reduceEqDiff, Nat.reduceAdd, Nat.reduceLeDiff, retOf, resOf]
      simp
    · have hc := with_codes a b he
      have h1 := with_err a b he
      have hne : ((withL a b).2 != 0) = true := by simpa using he
      have h192 := a192 N (a := []) (b := []) (by simp)
      rw [same_refl] at h192
      generalize withL a b = x at *
      obtain ⟨x1, x2⟩ := x
      simp only at he hc hne h116 h116' h1
      subst h1
      rcases hc with rfl | rfl
      · (repeat' first
    | refine w_seq ?_ | refine w_rg ?_ | refine wo_nil ?_ | refine g_skU ?_
    | ((first | apply s_plain | apply s_void | apply s_guard); · simp only [go_sem, Nat.reduceEqDiff, Nat.reduceAdd, Nat.reduceLeDiff, f0, f1, h116, h116', h192, hal]; (first | done | rfl))
    | ((first | apply g_T | apply g_F); · intro hb; simp only [go_sem, Nat.reduceEqDiff, Nat.reduceAdd, Nat.reduceLeDiff, f0, f1, h116, h116', h192, hal, hb]; (first | done | rfl))
    | ((first | apply g_gT | apply g_gF); · intro hb hc; simp only [go_sem, Nat.reduceEqDiff, Nat.reduceAdd, Nat.reduceLeDiff, f0, f1, h116, h116', h192, hal, hb, hc]; (first | done | rfl))
    | refine g_skT ?_ | refine g_skF ?_
    | ((first | apply g_goT | apply g_goF); · simp only [go_sem, Nat.reduceEqDiff, Nat.reduceAdd, Nat.reduceLeDiff, f0, f1, h116, h116', h192, hal]; (first | done | rfl))
    | (refine w_condT ?_ ?_; · simp only [go_sem, Nat.reduceEqDiff, Nat.reduceAdd, Nat.reduceLeDiff, f0, f1, h116, h116', h192, hal]; (first | done | rfl))
    | (refine w_condF ?_ ?_; · simp only [go_sem, Nat.reduceEqDiff, Nat.reduceAdd, Nat.reduceLeDiff, f0, f1, h116, h116', h192, hal]; (first | done | rfl))
    | refine w_skip ?_ | refine w_exit ?_ | refine w_ret ?_
    )
        exact ⟨.inr rfl, by simp only [go_sem, Nat.reduceEqDiff, Nat.reduceAdd, Nat.reduceLeDiff, retOf, resOf]; rfl⟩
      · (repeat' first
    | refine w_seq ?_ | refine w_rg ?_ | refine wo_nil ?_ | refine g_skU ?_
    | ((first | apply s_plain | apply s_void | apply s_guard); · simp only [go_sem, Nat.reduceEqDiff, Nat.reduceAdd, Nat.reduceLeDiff, f0, f1, h116, h116', h192, hal]; (first | done | rfl))
    | ((first | apply g_T | apply g_F); · intro hb; simp only [go_sem, Nat.reduceEqDiff, Nat.reduceAdd, Nat.reduceLeDiff, f0, f1, h116, h116', h192, hal, hb]; (first | done | rfl))
    | ((first | apply g_gT | apply g_gF); · intro hb hc; simp only [go_sem, Nat.reduceEqDiff, Nat.reduceAdd, Nat.reduceLeDiff, f0, f1, h116, h116', h192, hal, hb, hc]; (first | done | rfl))
    | refine g_skT ?_ | refine g_skF ?_
    | ((first | apply g_goT | apply g_goF); · simp only [go_sem, Nat.reduceEqDiff, Nat.reduceAdd, Nat.reduceLeDiff, f0, f1, h116, h116', h192, hal]; (first | done | rfl))
    | (refine w_condT ?_ ?_; · simp only [go_sem, Nat.reduceEqDiff, Nat.reduceAdd, Nat.reduceLeDiff, f0, f1, h116, h116', h192, hal]; (first | done | rfl))
    | (refine w_condF ?_ ?_; · simp only [go_sem, Nat.reduceEqDiff, Nat.reduceAdd, Nat.reduceLeDiff, f0, f1, h116, h116', h192, hal]; (first | done | rfl))
    | refine w_skip ?_ | refine w_exit ?_ | refine w_ret ?_
    )
        exact ⟨.inr rfl, by simp only [go_sem, Nat.reduceEqDiff, Nat.reduceAdd, Nat.reduceLeDiff, retOf, resOf]; rfl⟩
  · exact ⟨by simp only [go_sem, Nat.reduceEqDiff, Nat.reduceAdd, Nat.reduceLeDiff], by simp only [go_sem, Nat.reduceEqDiff, Nat.reduceAdd, Nat.reduceLeDiff], by simp only [go_sem, Nat.reduceEqDiff, Nat.reduceAdd, Nat.reduceLeDiff], by simp only [go_sem, Nat.reduceEqDiff, Nat.reduceAdd, Nat.reduceLeDiff]; exact .em, fun x hx => by simp at hx⟩
  · simp only [go_sem, Nat.reduceEqDiff, Nat.reduceAdd, Nat.reduceLeDiff]
  · simp only [go_sem, Nat.reduceEqDiff, Nat.reduceAdd, Nat.reduceLeDiff, hla]
end
end Go.Proofs.YtjijlmfhnkipmaaDoorPv
namespace Go.Proofs.YtjijlmfhnkipmaaDoorPv
open Go
set_option linter.unusedSimpArgs false
set_option linter.unusedVariables false
set_option maxHeartbeats 4000000
attribute [local go_sem ↓] e_mv e_pick e_bin e_eqs e_beq e_un e_cvi e_str e_s2b e_b2s e_box e_build e_bsl e_ld e_st e_nck e_mkf e_slcS e_slcL e_fa e_fld e_ia e_iaa e_ix e_ixa e_ext e_lenS e_lenL e_mnmx e_app e_appb e_bbx e_msl e_clr e_call e_callv pa_t pa_c pa_f slcSP_str hiOf_some hiOf_none loOf_some loOf_none set_eq set_ne
attribute [local go_sem] pv pv1 simple frOf_0 frOf_1 frOf_2 frOf_3 frOf_4 frOf_5 ne_eq not_false_eq_true if_true Bool.false_eq_true if_false pbin punary Option.map_some Option.bind_some pick_and pick_or opt_true Bool.true_and Bool.and_self Bool.and_true Bool.true_or Bool.false_or Bool.not_true Bool.not_false callE pcall_eq List.map_cons List.map_nil List.append_nil List.nil_append List.cons_append mapM_cons' mapM_nil' dep_eq fz_sc fz_sl fz_em fz_fn fz_fp fz_agg fz_bx fz_ob Nat.lt_irrefl Nat.zero_lt_one Nat.lt_add_one flat clL cl Bool.or_true okc cells_agg cells_sc cells_sl cells_em cells_ob cells_fn cells_bx cells_fp List.length_cons List.length_nil Nat.zero_add and_self true_and and_true new_m new_c put_m put_c nil_m nil_c deref List.getElem?_cons_zero List.getElem?_cons_succ List.drop_zero List.drop_succ_cons List.take_succ_cons List.take_zero Nat.le_refl false_and and_false
set_option maxRecDepth 8000
/-- transhipment/transhipmentlaw03.LabelTurns -/
def d238 : Def := (.code 3 [.tmp 6] (.seq (.rg false [⟨.some 6, .none, .mv (.c (.bool false))⟩]) (.seq (.rg false [⟨.some 26, .none, .mv (.t 0)⟩, ⟨.some 27, .none, .call 241 .pure [.t 26]⟩, ⟨.some 28, .none, .mv (.t 2)⟩, ⟨.some 29, .none, .call 243 .pure [.t 28]⟩, ⟨.some 0, .none, .mv (.t 27)⟩, ⟨.some 2, .none, .mv (.t 29)⟩]) (.seq (.seq (.rg false [⟨.some 30, .none, .mv (.t 0)⟩, ⟨.some 31, .none, .lenL (.t 30)⟩, ⟨.some 32, .none, .bin .eql (.t 31) (.c (.int .i64 0))⟩]) (.cond (.t 32) (.seq (.rg false [⟨.some 34, .none, .call 129 .pure [.c (.slice .none 0 0)]⟩, ⟨.some 33, .none, .mv (.t 34)⟩, ⟨.some 35, .none, .ext (.t 33) 0⟩, ⟨.some 36, .none, .ext (.t 33) 1⟩, ⟨.some 7, .none, .mv (.t 35)⟩, ⟨.some 8, .none, .mv (.t 36)⟩]) (.seq (.rg false [⟨.some 37, .none, .call 240 .pure []⟩, ⟨.some 38, .none, .mv (.t 37)⟩, ⟨.some 39, .some (38, true), .mv (.t 8)⟩, ⟨.some 40, .some (38, true), .bin .eql (.t 39) (.c (.int .i64 0))⟩, ⟨.some 41, .none, .pick (.t 38) (.t 40) (.c (.bool false))⟩, ⟨.some 42, .none, .mv (.t 41)⟩, ⟨.some 43, .some (42, true), .mv (.t 7)⟩, ⟨.some 44, .some (42, true), .lenL (.t 43)⟩, ⟨.some 45, .some (42, true), .bin .eql (.t 44) (.c (.int .i64 0))⟩, ⟨.some 46, .none, .pick (.t 42) (.t 45) (.c (.bool false))⟩, ⟨.some 6, .none, .mv (.t 46)⟩]) .ret)) .skip)) (.seq (.rg false [⟨.some 47, .none, .mv (.t 1)⟩, ⟨.some 48, .none, .mv (.t 0)⟩, ⟨.some 49, .none, .lenL (.t 48)⟩, ⟨.some 50, .none, .bin .rem (.t 47) (.t 49)⟩, ⟨.some 51, .none, .mv (.t 0)⟩, ⟨.some 52, .none, .lenL (.t 51)⟩, ⟨.some 53, .none, .bin .add (.t 50) (.t 52)⟩, ⟨.some 54, .none, .mv (.t 0)⟩, ⟨.some 55, .none, .lenL (.t 54)⟩, ⟨.some 56, .none, .bin .rem (.t 53) (.t 55)⟩, ⟨.some 1, .none, .mv (.t 56)⟩]) (.seq (.rg false [⟨.some 58, .none, .mv (.t 0)⟩, ⟨.some 59, .none, .call 129 .pure [.t 58]⟩, ⟨.some 57, .none, .mv (.t 59)⟩, ⟨.some 60, .none, .ext (.t 57) 0⟩, ⟨.some 61, .none, .ext (.t 57) 1⟩, ⟨.some 9, .none, .mv (.t 60)⟩, ⟨.some 10, .none, .mv (.t 61)⟩]) (.seq (.rg true [⟨.some 63, .none, .mv (.c (.slice .none 0 0))⟩, ⟨.some 64, .none, .mv (.t 0)⟩, ⟨.some 65, .none, .mv (.t 1)⟩, ⟨.some 66, .none, .slcL 2 (.t 64) (.some (.t 65)) .none⟩, ⟨.some 68, .none, .mv (.t 0)⟩, ⟨.some 69, .none, .mv (.t 1)⟩, ⟨.some 70, .none, .slcL 2 (.t 68) .none (.some (.t 69))⟩, ⟨.some 67, .none, .app 2 32 true (.t 63) (.t 66)⟩, ⟨.some 71, .none, .app 2 32 true (.t 67) (.t 70)⟩, ⟨.some 72, .none, .call 129 .pure [.t 71]⟩, ⟨.some 62, .none, .mv (.t 72)⟩, ⟨.some 73, .none, .ext (.t 62) 0⟩, ⟨.some 74, .none, .ext (.t 62) 1⟩, ⟨.some 11, .none, .mv (.t 73)⟩, ⟨.some 12, .none, .mv (.t 74)⟩]) (.seq (.seq (.rg false [⟨.some 75, .none, .mv (.t 10)⟩, ⟨.some 76, .none, .mv (.t 12)⟩, ⟨.some 77, .none, .bin .neq (.t 75) (.t 76)⟩, ⟨.some 78, .none, .mv (.t 77)⟩, ⟨.some 79, .some (78, false), .mv (.t 9)⟩, ⟨.some 80, .some (78, false), .mv (.t 11)⟩, ⟨.some 81, .some (78, false), .call 192 .pure [.t 79, .t 80]⟩, ⟨.some 82, .some (78, false), .un .not (.t 81)⟩, ⟨.some 83, .none, .pick (.t 78) (.c (.bool true)) (.t 82)⟩, ⟨.some 84, .none, .mv (.t 83)⟩, ⟨.some 85, .some (84, false), .call 240 .pure []⟩, ⟨.some 86, .some (84, false), .un .not (.t 85)⟩, ⟨.some 87, .none, .pick (.t 84) (.c (.bool true)) (.t 86)⟩]) (.cond (.t 87) (.seq (.rg false [⟨.some 6, .none, .mv (.c (.bool false))⟩]) .ret) .skip)) (.seq (.seq (.rg false [⟨.some 88, .none, .mv (.t 10)⟩, ⟨.some 89, .none, .bin .neq (.t 88) (.c (.int .i64 0))⟩]) (.cond (.t 89) (.seq (.rg false [⟨.some 90, .none, .mv (.t 9)⟩, ⟨.some 91, .none, .lenL (.t 90)⟩, ⟨.some 92, .none, .bin .eql (.t 91) (.c (.int .i64 0))⟩, ⟨.some 6, .none, .mv (.t 92)⟩]) .ret) .skip)) (.seq (.rg false [⟨.some 94, .none, .mv (.t 9)⟩, ⟨.some 95, .none, .call 129 .pure [.t 94]⟩, ⟨.some 93, .none, .mv (.t 95)⟩, ⟨.some 96, .none, .ext (.t 93) 0⟩, ⟨.some 97, .none, .ext (.t 93) 1⟩, ⟨.some 13, .none, .mv (.t 96)⟩, ⟨.some 14, .none, .mv (.t 97)⟩]) (.seq (.rg false [⟨.some 99, .none, .mv (.t 9)⟩, ⟨.some 100, .none, .mv (.t 2)⟩, ⟨.some 101, .none, .call 244 .pure [.t 99, .t 100]⟩, ⟨.some 98, .none, .mv (.t 101)⟩, ⟨.some 102, .none, .ext (.t 98) 0⟩, ⟨.some 103, .none, .ext (.t 98) 1⟩, ⟨.some 15, .none, .mv (.t 102)⟩, ⟨.some 16, .none, .mv (.t 103)⟩]) (.seq (.rg false [⟨.some 105, .none, .mv (.t 15)⟩, ⟨.some 106, .none, .mv (.t 2)⟩, ⟨.some 107, .none, .call 244 .pure [.t 105, .t 106]⟩, ⟨.some 104, .none, .mv (.t 107)⟩, ⟨.some 108, .none, .ext (.t 104) 0⟩, ⟨.some 109, .none, .ext (.t 104) 1⟩, ⟨.some 17, .none, .mv (.t 108)⟩, ⟨.some 18, .none, .mv (.t 109)⟩]) (.seq (.rg false [⟨.some 19, .none, .mv (.c (.slice .none 0 0))⟩]) (.seq (.seq (.rg false [⟨.some 110, .none, .mv (.t 9)⟩, ⟨.some 111, .none, .lenL (.t 110)⟩, ⟨.some 112, .none, .mv (.c (.int .i64 0))⟩]) (.block 0 (.loop (.seq (.rg false [⟨.some 113, .none, .bin .lss (.t 112) (.t 111)⟩]) (.seq (.cond (.t 113) .skip (.exit 0)) (.seq (.block 1 (.seq (.rg false [⟨.some 114, .none, .ia 2 (.t 110) (.t 112)⟩, ⟨.some 115, .none, .ld (.some 2) (.t 114)⟩, ⟨.some 21, .none, .box (.c (.agg #[.string ⟨#[]⟩, .string ⟨#[]⟩]))⟩, ⟨.none, .none, .st 2 (.t 21) (.t 115)⟩]) (.seq (.rg false [⟨.some 116, .none, .mv (.t 15)⟩, ⟨.some 117, .none, .fa 0 (.t 21)⟩, ⟨.some 118, .none, .ld .none (.t 117)⟩, ⟨.some 119, .none, .call 114 .pure [.t 116, .t 118]⟩, ⟨.some 120, .none, .bin .eql (.t 119) (.c (.string ⟨#[]⟩))⟩]) (.cond (.t 120) (.rg false [⟨.some 121, .none, .mv (.t 19)⟩, ⟨.some 122, .none, .fa 0 (.t 21)⟩, ⟨.some 123, .none, .ld .none (.t 122)⟩, ⟨.some 124, .none, .bsl 1 (.string ⟨#[]⟩) 1 [(0, .t 123)]⟩, ⟨.some 125, .none, .app 1 16 true (.t 121) (.t 124)⟩, ⟨.some 19, .none, .mv (.t 125)⟩]) .skip)))) (.rg false [⟨.some 126, .none, .bin .add (.t 112) (.c (.int .i64 1))⟩, ⟨.some 112, .none, .mv (.t 126)⟩]))))))) (.seq (.rg false [⟨.some 128, .none, .mv (.t 9)⟩, ⟨.some 129, .none, .mv (.t 19)⟩, ⟨.some 130, .none, .call 244 .pure [.t 128, .t 129]⟩, ⟨.some 127, .none, .mv (.t 130)⟩, ⟨.some 131, .none, .ext (.t 127) 0⟩, ⟨.some 132, .none, .ext (.t 127) 1⟩, ⟨.some 22, .none, .mv (.t 131)⟩, ⟨.some 23, .none, .mv (.t 132)⟩]) (.seq (.rg false [⟨.some 134, .none, .mv (.t 22)⟩, ⟨.some 135, .none, .mv (.t 15)⟩, ⟨.some 136, .none, .call 116 .pure [.t 134, .t 135]⟩, ⟨.some 133, .none, .mv (.t 136)⟩, ⟨.some 137, .none, .ext (.t 133) 0⟩, ⟨.some 138, .none, .ext (.t 133) 1⟩, ⟨.some 24, .none, .mv (.t 137)⟩, ⟨.some 25, .none, .mv (.t 138)⟩]) (.seq (.rg false [⟨.some 139, .none, .mv (.t 14)⟩, ⟨.some 140, .none, .bin .eql (.t 139) (.c (.int .i64 0))⟩, ⟨.some 141, .none, .mv (.t 140)⟩, ⟨.some 142, .some (141, true), .mv (.t 9)⟩, ⟨.some 143, .some (141, true), .mv (.t 13)⟩, ⟨.some 144, .some (141, true), .call 192 .pure [.t 142, .t 143]⟩, ⟨.some 145, .none, .pick (.t 141) (.t 144) (.c (.bool false))⟩, ⟨.some 146, .none, .mv (.t 145)⟩, ⟨.some 147, .some (146, true), .mv (.t 16)⟩, ⟨.some 148, .some (146, true), .bin .eql (.t 147) (.c (.int .i64 0))⟩, ⟨.some 149, .none, .pick (.t 146) (.t 148) (.c (.bool false))⟩, ⟨.some 150, .none, .mv (.t 149)⟩, ⟨.some 151, .some (150, true), .mv (.t 18)⟩, ⟨.some 152, .some (150, true), .bin .eql (.t 151) (.c (.int .i64 0))⟩, ⟨.some 153, .none, .pick (.t 150) (.t 152) (.c (.bool false))⟩, ⟨.some 154, .none, .mv (.t 153)⟩, ⟨.some 155, .some (154, true), .mv (.t 17)⟩, ⟨.some 156, .some (154, true), .mv (.t 15)⟩, ⟨.some 157, .some (154, true), .call 192 .pure [.t 155, .t 156]⟩, ⟨.some 158, .none, .pick (.t 154) (.t 157) (.c (.bool false))⟩, ⟨.some 159, .none, .mv (.t 158)⟩, ⟨.some 160, .some (159, true), .mv (.t 23)⟩, ⟨.some 161, .some (159, true), .bin .eql (.t 160) (.c (.int .i64 0))⟩, ⟨.some 162, .none, .pick (.t 159) (.t 161) (.c (.bool false))⟩, ⟨.some 163, .none, .mv (.t 162)⟩, ⟨.some 164, .some (163, true), .mv (.t 25)⟩, ⟨.some 165, .some (163, true), .bin .eql (.t 164) (.c (.int .i64 0))⟩, ⟨.some 166, .none, .pick (.t 163) (.t 165) (.c (.bool false))⟩, ⟨.some 167, .none, .mv (.t 166)⟩, ⟨.some 168, .some (167, true), .mv (.t 24)⟩, ⟨.some 169, .some (167, true), .mv (.t 9)⟩, ⟨.some 170, .some (167, true), .call 192 .pure [.t 168, .t 169]⟩, ⟨.some 171, .none, .pick (.t 167) (.t 170) (.c (.bool false))⟩, ⟨.some 6, .none, .mv (.t 171)⟩]) .ret)))))))))))))))))
def ltd : List (Nat × Def) := [(238, d238)]
section
variable {env : Nat → Option Def} {fr : Fr} {σ σ' : St} {K : Fr → St → Prop} {Q : X → Fr → St → Prop}
theorem rem_mid {n : Nat} (h : 0 < n) (h10 : n ≤ 10) (b : Int) : ∃ r : Nat, r < n ∧ (IntKind.i64.wrap (b.tmod n + n)).tmod n = (r : Int) := by
  have h1 := Int.tmod_lt_of_pos b (show (0 : Int) < (n : Int) by omega)
  have h2 := Int.lt_tmod_of_pos b (show (0 : Int) < (n : Int) by omega)
  have hw : IntKind.i64.wrap (b.tmod n + n) = b.tmod n + n := by rw [IntKind.wrap_i64]; omega
  rw [hw]
  have h3 := Int.tmod_nonneg (n : Int) (show (0 : Int) ≤ b.tmod n + n by omega)
  have h4 := Int.tmod_lt_of_pos (b.tmod n + n) (show (0 : Int) < (n : Int) by omega)
  exact ⟨((b.tmod n + n).tmod n).toNat, by omega, by omega⟩
theorem rest_succ {x k : List Lab} {i : Nat} (hi : i < x.length) : strs ((restL (x.take (i + 1)) k).map (·.1)) = strs ((restL (x.take i) k).map (·.1)) ++ if missB k x[i] = true then [.sc (.string x[i].1)] else [] := by
  unfold restL
  rw [List.take_succ_eq_append_getElem hi, List.filter_append, List.map_append]
  unfold strs
  rw [List.map_append]
  cases h : missB k x[i] <;> simp [h]
theorem rest_len (x k : List Lab) (i : Nat) : (strs ((restL (x.take i) k).map (·.1))).length ≤ x.length := by
  rw [strs_len, List.length_map]
  refine Nat.le_trans (List.length_filter_le _ _) ?_
  rw [List.length_take]; omega
theorem new_codes (l : List Lab) (h : (newL l).2 ≠ 0) : (newL l).2 = 1 ∨ (newL l).2 = 2 ∨ (newL l).2 = 10 := by
  revert h
  unfold newL
  split
  · exact fun _ => .inr (.inl rfl)
  · split
    · exact fun _ => .inl rfl
    · split
      · exact fun h => absurd rfl h
      · exact fun _ => .inr (.inr rfl)
theorem a238 (H : Has la0 env) (G : Has lc env) (N : Has ln0 env) (O : Has lo env) (P : Has lp env) (V : Has lq0 env) (W : Has lw env) (X : Has lx env) (Y : Has ly env) (T : Has ltd env) (B : Bits env)
    (hal : AV env 240 [] = some (.sc (.bool true))) {l : List Lab} {ns : List ByteArray} (hl : l.length ≤ 9223372036854775807) (hs : ns.length ≤ 9223372036854775807) (b : Int) :
    AV env 238 [.sl (labs l), .sc (.int .i64 b), .sl (strs ns)] = some (.sc (.bool true)) := by
  have g1 := few_g (W (241, d108) (by simp [lw])) hl
  have g3 := a243 X hs
  have k1 : (fewL l).length ≤ 10 := by rw [fewL_len]; omega
  have k3 : (cutN ns).length ≤ 10 := by rw [cutN_len]; omega
  have s1 := fewL_smalls l
  generalize fewL l = a at g1 k1 s1
  generalize cutN ns = n at g3 k3
  have hla := labs_len a
  have h129 := a129 H G O P B (l := a) (by omega) s1
  refine AV_wp (T (238, d238) (by simp [ltd])) rfl ?_
  cases a with
  | nil =>
    rw [show newL [] = ([], 0) from new_right (by rw [right_iff]; exact ⟨by simp, List.Pairwise.nil, by simp⟩)] at h129
    have h129' : AV env 129 [.sl []] = _ := h129
    (repeat' first
    | refine w_seq ?_ | refine w_rg ?_ | refine wo_nil ?_ | refine g_skU ?_
    | ((first | apply s_plain | apply s_void | apply s_guard); · simp only [go_sem, Nat.reduceEqDiff, Nat.reduceAdd, Nat.reduceLeDiff, g1, g3, hla, h129', hal]; (first | done | rfl))
    | ((first | apply g_T | apply g_F); · intro hb; simp only [go_sem, Nat.reduceEqDiff, Nat.reduceAdd, Nat.reduceLeDiff, g1, g3, hla, h129', hal, hb]; (first | done | rfl))
    | ((first | apply g_gT | apply g_gF); · intro hb hc; simp only [go_sem, Nat.reduceEqDiff, Nat.reduceAdd, Nat.reduceLeDiff, g1, g3, hla, h129', hal, hb, hc]; (first | done | rfl))
    | refine g_skT ?_ | refine g_skF ?_
    | ((first | apply g_goT | apply g_goF); · simp only [go_sem, Nat.reduceEqDiff, Nat.reduceAdd, Nat.reduceLeDiff, g1, g3, hla, h129', hal]; (first | done | rfl))
    | (refine w_condT ?_ ?_; · simp only [go_sem, Nat.reduceEqDiff, Nat.reduceAdd, Nat.reduceLeDiff, g1, g3, hla, h129', hal]; (first | done | rfl))
    | (refine w_condF ?_ ?_; · simp only [go_sem, Nat.reduceEqDiff, Nat.reduceAdd, Nat.reduceLeDiff, g1, g3, hla, h129', hal]; (first | done | rfl))
    | refine w_skip ?_ | refine w_exit ?_ | refine w_ret ?_
    )
    refine ⟨.inr rfl, ?_⟩
    simp only [go_sem, Nat.reduceEqDiff, Nat.reduceAdd, Nat.reduceLeDiff, retOf, resOf]
    simp [labs]
  | cons m0 a0 =>
    generalize hA : m0 :: a0 = a at *
    have hn0 : 0 < a.length := by rw [← hA]; simp
    obtain ⟨r, hr, hrm⟩ := rem_mid hn0 k1 b
    have hz1 : ((a.length : Int) == 0) = false := by rw [beq_eq_false_iff_ne]; omega
    have hz2 : ((a.length : Int) = 0) = False := eq_false (by omega)
    have hall : ((labs a).all fun x => (cellsOf x).length == 2) = true := by
      have := labs_ok a
      rw [List.all_eq_true] at this ⊢
      intro x hx
      have := this x hx
      simp only [Bool.and_eq_true] at this
      exact this.2
    have br : bound a.length (.sc (.int .i64 (r : Int))) = some r := bound_nat (Nat.le_of_lt hr)
    (repeat' first
    | refine w_seq ?_ | refine w_rg ?_ | refine wo_nil ?_ | refine g_skU ?_
    | ((first | apply s_plain | apply s_void | apply s_guard); · simp only [go_sem, Nat.reduceEqDiff, Nat.reduceAdd, Nat.reduceLeDiff, g1, g3, hla, hz1]; (first | done | rfl))
    | ((first | apply g_T | apply g_F); · intro hb; simp only [go_sem, Nat.reduceEqDiff, Nat.reduceAdd, Nat.reduceLeDiff, g1, g3, hla, hz1, hb]; (first | done | rfl))
    | ((first | apply g_gT | apply g_gF); · intro hb hc; simp only [go_sem, Nat.reduceEqDiff, Nat.reduceAdd, Nat.reduceLeDiff, g1, g3, hla, hz1, hb, hc]; (first | done | rfl))
    | refine g_skT ?_ | refine g_skF ?_
    | ((first | apply g_goT | apply g_goF); · simp only [go_sem, Nat.reduceEqDiff, Nat.reduceAdd, Nat.reduceLeDiff, g1, g3, hla, hz1]; (first | done | rfl))
    | (refine w_condT ?_ ?_; · simp only [go_sem, Nat.reduceEqDiff, Nat.reduceAdd, Nat.reduceLeDiff, g1, g3, hla, hz1]; (first | done | rfl))
    | (refine w_condF ?_ ?_; · simp only [go_sem, Nat.reduceEqDiff, Nat.reduceAdd, Nat.reduceLeDiff, g1, g3, hla, hz1]; (first | done | rfl))
    | refine w_skip ?_ | refine w_exit ?_ | refine w_ret ?_
    )
    (repeat' first
    | refine w_seq ?_ | refine w_rg ?_ | refine wo_nil ?_ | refine g_skU ?_
    | ((first | apply s_plain | apply s_void | apply s_guard); · simp only [go_sem, Nat.reduceEqDiff, Nat.reduceAdd, Nat.reduceLeDiff, g1, g3, hla, hz1, hz2, hrm, h129]; (first | done | rfl))
    | ((first | apply g_T | apply g_F); · intro hb; simp only [go_sem, Nat.reduceEqDiff, Nat.reduceAdd, Nat.reduceLeDiff, g1, g3, hla, hz1, hz2, hrm, h129, hb]; (first | done | rfl))
    | ((first | apply g_gT | apply g_gF); · intro hb hc; simp only [go_sem, Nat.reduceEqDiff, Nat.reduceAdd, Nat.reduceLeDiff, g1, g3, hla, hz1, hz2, hrm, h129, hb, hc]; (first | done | rfl))
    | refine g_skT ?_ | refine g_skF ?_
    | ((first | apply g_goT | apply g_goF); · simp only [go_sem, Nat.reduceEqDiff, Nat.reduceAdd, Nat.reduceLeDiff, g1, g3, hla, hz1, hz2, hrm, h129]; (first | done | rfl))
    )
    (repeat' first
    | refine w_seq ?_ | refine w_rg ?_ | refine wo_nil ?_ | refine g_skU ?_
    | ((first | apply s_plain | apply s_void | apply s_guard); · simp only [go_sem, Nat.reduceEqDiff, Nat.reduceAdd, Nat.reduceLeDiff, g1, g3, hla, hz1, hz2, hrm, h129, slcLP, hall, br, bound_nat (Nat.le_refl a.length), Nat.sub_zero, List.drop_zero]; (first | done | rfl))
    | ((first | apply g_T | apply g_F); · intro hb; simp only [go_sem, Nat.reduceEqDiff, Nat.reduceAdd, Nat.reduceLeDiff, g1, g3, hla, hz1, hz2, hrm, h129, slcLP, hall, br, bound_nat (Nat.le_refl a.length), Nat.sub_zero, List.drop_zero, hb]; (first | done | rfl))
    | ((first | apply g_gT | apply g_gF); · intro hb hc; simp only [go_sem, Nat.reduceEqDiff, Nat.reduceAdd, Nat.reduceLeDiff, g1, g3, hla, hz1, hz2, hrm, h129, slcLP, hall, br, bound_nat (Nat.le_refl a.length), Nat.sub_zero, List.drop_zero, hb, hc]; (first | done | rfl))
    | refine g_skT ?_ | refine g_skF ?_
    | ((first | apply g_goT | apply g_goF); · simp only [go_sem, Nat.reduceEqDiff, Nat.reduceAdd, Nat.reduceLeDiff, g1, g3, hla, hz1, hz2, hrm, h129, slcLP, hall, br, bound_nat (Nat.le_refl a.length), Nat.sub_zero, List.drop_zero]; (first | done | rfl))
    )
    have hok1 : (((labs a).take a.length).drop r).all (fun y => okc y && (cellsOf y).length == 2) = true := by
      have := labs_ok a
      rw [List.all_eq_true] at this ⊢
      exact fun x hx => this x (List.mem_of_mem_take (List.mem_of_mem_drop hx))
    have hok2 : ((labs a).take r).all (fun y => okc y && (cellsOf y).length == 2) = true := by
      have := labs_ok a
      rw [List.all_eq_true] at this ⊢
      exact fun x hx => this x (List.mem_of_mem_take hx)
    refine s_gatL (os := [67, 71]) (w := false) (xs := []) (ys := ((labs a).take a.length).drop r) (by simp only [go_sem, Nat.reduceEqDiff, Nat.reduceAdd, Nat.reduceLeDiff]; exact .em) (by simp only [go_sem, Nat.reduceEqDiff, Nat.reduceAdd, Nat.reduceLeDiff, srcOf, elemsOf]) hok1 (by simp only [List.length_drop, List.length_take, List.length_nil, hla]; omega) ?_
    intro p1 τ1 hg1 _
    simp only [Bool.false_and] at hg1
    refine s_gatL (os := [67]) (w := false) (ys := (labs a).take r) (by simp only [go_sem, Nat.reduceEqDiff, Nat.reduceAdd, Nat.reduceLeDiff]; exact hg1) (by simp only [go_sem, Nat.reduceEqDiff, Nat.reduceAdd, Nat.reduceLeDiff, srcOf, elemsOf]) hok2 (by simp only [List.length_drop, List.length_take, List.length_append, List.length_nil, hla]; omega) ?_
    intro p2 τ2 hg2 _
    have hcat : [] ++ ((labs a).take a.length).drop r ++ (labs a).take r = labs (a.drop r ++ a.take r) := by
      rw [List.take_of_length_le (by omega)]
      simp [labs]
    rw [hcat] at hg2
    have hfz2 := hg2.fz (labs_fz τ2 _)
    have hperm : (a.drop r ++ a.take r).Perm a := by
      have h := List.perm_append_comm (l₁ := a.drop r) (l₂ := a.take r)
      rwa [List.take_append_drop] at h
    have h129p := a129 H G O P B (l := a.drop r ++ a.take r) (by simp; omega) (fun m hm => s1 m (hperm.subset hm))
    rw [new_perm hperm] at h129p
    refine s_call (as := [.sl (labs (a.drop r ++ a.take r))]) (by simp only [go_sem, Nat.reduceEqDiff, Nat.reduceAdd, Nat.reduceLeDiff, hfz2]) h129p ?_
    intro τ3
    have hne0 : ((newL a).2 != (newL a).2) = false := by simp
    have h192 := a192 N (a := (newL a).1) (b := (newL a).1) (by
      unfold newL
      split
      · simp
      · split
        · simp
        · split
          · rw [sortedL_len]; omega
          · simp)
    rw [same_refl] at h192
    (repeat' first
    | refine w_seq ?_ | refine w_rg ?_ | refine wo_nil ?_ | refine g_skU ?_
    | ((first | apply s_plain | apply s_void | apply s_guard); · simp only [go_sem, Nat.reduceEqDiff, Nat.reduceAdd, Nat.reduceLeDiff]; (first | done | rfl))
    | ((first | apply g_T | apply g_F); · intro hb; simp only [go_sem, Nat.reduceEqDiff, Nat.reduceAdd, Nat.reduceLeDiff, hb]; (first | done | rfl))
    | ((first | apply g_gT | apply g_gF); · intro hb hc; simp only [go_sem, Nat.reduceEqDiff, Nat.reduceAdd, Nat.reduceLeDiff, hb, hc]; (first | done | rfl))
    | refine g_skT ?_ | refine g_skF ?_
    | ((first | apply g_goT | apply g_goF); · simp only [go_sem, Nat.reduceEqDiff, Nat.reduceAdd, Nat.reduceLeDiff]; (first | done | rfl))
    )
    (repeat' first
    | refine w_seq ?_ | refine w_rg ?_ | refine wo_nil ?_ | refine g_skU ?_
    | ((first | apply s_plain | apply s_void | apply s_guard); · simp only [go_sem, Nat.reduceEqDiff, Nat.reduceAdd, Nat.reduceLeDiff, hne0, h192, hal]; (first | done | rfl))
    | ((first | apply g_T | apply g_F); · intro hb; simp only [go_sem, Nat.reduceEqDiff, Nat.reduceAdd, Nat.reduceLeDiff, hne0, h192, hal, hb]; (first | done | rfl))
    | ((first | apply g_gT | apply g_gF); · intro hb hc; simp only [go_sem, Nat.reduceEqDiff, Nat.reduceAdd, Nat.reduceLeDiff, hne0, h192, hal, hb, hc]; (first | done | rfl))
    | refine g_skT ?_ | refine g_skF ?_
    | ((first | apply g_goT | apply g_goF); · simp only [go_sem, Nat.reduceEqDiff, Nat.reduceAdd, Nat.reduceLeDiff, hne0, h192, hal]; (first | done | rfl))
    | (refine w_condT ?_ ?_; · simp only [go_sem, Nat.reduceEqDiff, Nat.reduceAdd, Nat.reduceLeDiff, hne0, h192, hal]; (first | done | rfl))
    | (refine w_condF ?_ ?_; · simp only [go_sem, Nat.reduceEqDiff, Nat.reduceAdd, Nat.reduceLeDiff, hne0, h192, hal]; (first | done | rfl))
    | refine w_skip ?_ | refine w_exit ?_ | refine w_ret ?_
    )
    by_cases he : (newL a).2 = 0
    · have hrx := newL_ok he
      have hx8 := right_len hrx
      generalize hX : newL a = xe at *
      obtain ⟨x, e⟩ := xe
      simp only at he hrx hx8
      subst he
      have hsx := right_smalls hrx
      have h129x := a129 H G O P B (l := x) (by omega) hsx
      rw [new_right hrx] at h129x
      have h244 := a244 H G V X Y (l := x) (by omega) hsx (ns := n) (by omega)
      rw [show keptL x n = (keepL x n, 0) from by unfold keptL; rw [hrx]; rfl] at h244
      have hrk := keep_right hrx n
      have hsk := right_smalls hrk
      have hk8 := right_len hrk
      have h244k := a244 H G V X Y (l := keepL x n) (by omega) hsk (ns := n) (by omega)
      rw [show keptL (keepL x n) n = (keepL x n, 0) from by unfold keptL; rw [hrk, keep_twice]; rfl] at h244k
      have h244r := a244 H G V X Y (l := x) (by omega) hsx (ns := (restL x (keepL x n)).map (·.1)) (by rw [List.length_map]; exact Nat.le_trans (List.length_filter_le _ _) (by omega))
      rw [show keptL x ((restL x (keepL x n)).map (·.1)) = (restL x (keepL x n), 0) from by unfold keptL; rw [hrx, rest_keep hrx]; rfl] at h244r
      have hrl : (restL x (keepL x n)).length ≤ 8 := Nat.le_trans (List.length_filter_le _ _) hx8
      have h116 := a116 H G O P V B (l := restL x (keepL x n)) (over := keepL x n) (by omega) (fun m hm => hsx m (List.mem_filter.1 hm).1) (by omega) hsk
      rw [rest_with hrx] at h116
      have h192k := a192 N (a := keepL x n) (b := keepL x n) (by omega)
      rw [same_refl] at h192k
      have hxl := labs_len x
      (repeat' first
    | refine w_seq ?_ | refine w_rg ?_ | refine wo_nil ?_ | refine g_skU ?_
    | ((first | apply s_plain | apply s_void | apply s_guard); · simp only [go_sem, Nat.reduceEqDiff, Nat.reduceAdd, Nat.reduceLeDiff, h129x, h244, h244k]; (first | done | rfl))
    | ((first | apply g_T | apply g_F); · intro hb; simp only [go_sem, Nat.reduceEqDiff, Nat.reduceAdd, Nat.reduceLeDiff, h129x, h244, h244k, hb]; (first | done | rfl))
    | ((first | apply g_gT | apply g_gF); · intro hb hc; simp only [go_sem, Nat.reduceEqDiff, Nat.reduceAdd, Nat.reduceLeDiff, h129x, h244, h244k, hb, hc]; (first | done | rfl))
    | refine g_skT ?_ | refine g_skF ?_
    | ((first | apply g_goT | apply g_goF); · simp only [go_sem, Nat.reduceEqDiff, Nat.reduceAdd, Nat.reduceLeDiff, h129x, h244, h244k]; (first | done | rfl))
    | (refine w_condT ?_ ?_; · simp only [go_sem, Nat.reduceEqDiff, Nat.reduceAdd, Nat.reduceLeDiff, h129x, h244, h244k]; (first | done | rfl))
    | (refine w_condF ?_ ?_; · simp only [go_sem, Nat.reduceEqDiff, Nat.reduceAdd, Nat.reduceLeDiff, h129x, h244, h244k]; (first | done | rfl))
    | refine w_skip ?_ | refine w_exit ?_ | refine w_ret ?_
    )
      (repeat' first
    | refine w_seq ?_ | refine w_rg ?_ | refine wo_nil ?_ | refine g_skU ?_
    | ((first | apply s_plain | apply s_void | apply s_guard); · simp only [go_sem, Nat.reduceEqDiff, Nat.reduceAdd, Nat.reduceLeDiff, h129x, h244, h244k, hxl]; (first | done | rfl))
    | ((first | apply g_T | apply g_F); · intro hb; simp only [go_sem, Nat.reduceEqDiff, Nat.reduceAdd, Nat.reduceLeDiff, h129x, h244, h244k, hxl, hb]; (first | done | rfl))
    | ((first | apply g_gT | apply g_gF); · intro hb hc; simp only [go_sem, Nat.reduceEqDiff, Nat.reduceAdd, Nat.reduceLeDiff, h129x, h244, h244k, hxl, hb, hc]; (first | done | rfl))
    | refine g_skT ?_ | refine g_skF ?_
    | ((first | apply g_goT | apply g_goF); · simp only [go_sem, Nat.reduceEqDiff, Nat.reduceAdd, Nat.reduceLeDiff, h129x, h244, h244k, hxl]; (first | done | rfl))
    )
      generalize hK : keepL x n = k at *
      refine w_block (w_range x.length (by omega) (fun i fr σ => (fr 9 = .sl (labs x) ∧ fr 13 = .sl (labs x) ∧ fr 14 = .sc (.int .i64 0) ∧ fr 15 = .sl (labs k) ∧ fr 16 = .sc (.int .i64 0) ∧ fr 17 = .sl (labs k) ∧ fr 18 = .sc (.int .i64 0)) ∧ fr 110 = .sl (labs x) ∧ Gat σ [125] 1 false (fr 19) (strs ((restL (x.take i) k).map (·.1)))) (by decide) ?_ ?_ ?_ _ _ ?_ ?_ ?_)
      · rintro i fr σ v ⟨⟨h1, h2, h3, h4, h5, h6, h7⟩, h8, h9⟩
        refine ⟨⟨⟨?_, ?_, ?_, ?_, ?_, ?_, ?_⟩, ?_, ?_⟩, ⟨⟨?_, ?_, ?_, ?_, ?_, ?_, ?_⟩, ?_, ?_⟩, ⟨⟨?_, ?_, ?_, ?_, ?_, ?_, ?_⟩, ?_, ?_⟩⟩ <;> simp only [go_sem, Nat.reduceEqDiff, Nat.reduceAdd, Nat.reduceLeDiff, h1, h2, h3, h4, h5, h6, h7, h8, h9]
      · rintro i fr σ hi ⟨⟨h1, h2, h3, h4, h5, h6, h7⟩, h8, hg⟩ hti htn
        have hy := labs_at (List.getElem?_eq_getElem hi)
        have e1 : (0 : Int) ≤ (i : Int) ∧ (i : Int) < (x.length : Int) := by omega
        have hlen := rest_len x k i
        have hrs := rest_succ (k := k) hi
        have h114 := a114 G (l := k) (n := x[i].1) (by omega)
        have hmi : missB k x[i] = ((getB k x[i].1).toList == (⟨#[]⟩ : ByteArray).toList) := rfl
        refine w_block ?_
        simp only [lab] at hy
        (repeat' first
    | refine w_seq ?_ | refine w_rg ?_ | refine wo_nil ?_ | refine g_skU ?_
    | ((first | apply s_plain | apply s_void | apply s_guard); · simp only [go_sem, Nat.reduceEqDiff, Nat.reduceAdd, Nat.reduceLeDiff, h8, hti, e1, hxl, Int.toNat_natCast, hy, List.modify_zero_cons, h4, h114]; (first | done | rfl))
    | ((first | apply g_T | apply g_F); · intro hb; simp only [go_sem, Nat.reduceEqDiff, Nat.reduceAdd, Nat.reduceLeDiff, h8, hti, e1, hxl, Int.toNat_natCast, hy, List.modify_zero_cons, h4, h114, hb]; (first | done | rfl))
    | ((first | apply g_gT | apply g_gF); · intro hb hc; simp only [go_sem, Nat.reduceEqDiff, Nat.reduceAdd, Nat.reduceLeDiff, h8, hti, e1, hxl, Int.toNat_natCast, hy, List.modify_zero_cons, h4, h114, hb, hc]; (first | done | rfl))
    | refine g_skT ?_ | refine g_skF ?_
    | ((first | apply g_goT | apply g_goF); · simp only [go_sem, Nat.reduceEqDiff, Nat.reduceAdd, Nat.reduceLeDiff, h8, hti, e1, hxl, Int.toNat_natCast, hy, List.modify_zero_cons, h4, h114]; (first | done | rfl))
    )
        cases hb : missB k x[i] with
        | true =>
          rw [hb, if_pos rfl] at hrs
          rw [hmi] at hb
          (repeat' first
    | refine w_seq ?_ | refine w_rg ?_ | refine wo_nil ?_ | refine g_skU ?_
    | ((first | apply s_plain | apply s_void | apply s_guard); · simp only [go_sem, Nat.reduceEqDiff, Nat.reduceAdd, Nat.reduceLeDiff, hb, fillE, List.replicate_succ, List.replicate_zero, List.set_cons_zero]; (first | done | rfl))
    | ((first | apply g_T | apply g_F); · intro hb; simp only [go_sem, Nat.reduceEqDiff, Nat.reduceAdd, Nat.reduceLeDiff, hb, fillE, List.replicate_succ, List.replicate_zero, List.set_cons_zero, hb]; (first | done | rfl))
    | ((first | apply g_gT | apply g_gF); · intro hb hc; simp only [go_sem, Nat.reduceEqDiff, Nat.reduceAdd, Nat.reduceLeDiff, hb, fillE, List.replicate_succ, List.replicate_zero, List.set_cons_zero, hb, hc]; (first | done | rfl))
    | refine g_skT ?_ | refine g_skF ?_
    | ((first | apply g_goT | apply g_goF); · simp only [go_sem, Nat.reduceEqDiff, Nat.reduceAdd, Nat.reduceLeDiff, hb, fillE, List.replicate_succ, List.replicate_zero, List.set_cons_zero]; (first | done | rfl))
    | (refine w_condT ?_ ?_; · simp only [go_sem, Nat.reduceEqDiff, Nat.reduceAdd, Nat.reduceLeDiff, hb, fillE, List.replicate_succ, List.replicate_zero, List.set_cons_zero]; (first | done | rfl))
    | (refine w_condF ?_ ?_; · simp only [go_sem, Nat.reduceEqDiff, Nat.reduceAdd, Nat.reduceLeDiff, hb, fillE, List.replicate_succ, List.replicate_zero, List.set_cons_zero]; (first | done | rfl))
    | refine w_skip ?_ | refine w_exit ?_ | refine w_ret ?_
    )
          refine s_gat (os := [125]) (w := false) (xs := strs ((restL (x.take i) k).map (·.1))) (e := .sc (.string x[i].1)) (by simp only [go_sem, Nat.reduceEqDiff, Nat.reduceAdd, Nat.reduceLeDiff]; exact ((hg.new _).put (d := 21) (by decide) _).new _) (by decide) (by simp only [go_sem, Nat.reduceEqDiff, Nat.reduceAdd, Nat.reduceLeDiff, srcOf, elemsOf, List.drop_zero]) rfl rfl (by omega) ?_
          intro p σ' hg3
          simp only [Bool.false_and] at hg3
          rw [← hrs] at hg3
          (repeat' first
    | refine w_seq ?_ | refine w_rg ?_ | refine wo_nil ?_ | refine g_skU ?_
    | ((first | apply s_plain | apply s_void | apply s_guard); · simp only [go_sem, Nat.reduceEqDiff, Nat.reduceAdd, Nat.reduceLeDiff]; (first | done | rfl))
    | ((first | apply g_T | apply g_F); · intro hb; simp only [go_sem, Nat.reduceEqDiff, Nat.reduceAdd, Nat.reduceLeDiff, hb]; (first | done | rfl))
    | ((first | apply g_gT | apply g_gF); · intro hb hc; simp only [go_sem, Nat.reduceEqDiff, Nat.reduceAdd, Nat.reduceLeDiff, hb, hc]; (first | done | rfl))
    | refine g_skT ?_ | refine g_skF ?_
    | ((first | apply g_goT | apply g_goF); · simp only [go_sem, Nat.reduceEqDiff, Nat.reduceAdd, Nat.reduceLeDiff]; (first | done | rfl))
    | (refine w_condT ?_ ?_; · simp only [go_sem, Nat.reduceEqDiff, Nat.reduceAdd, Nat.reduceLeDiff]; (first | done | rfl))
    | (refine w_condF ?_ ?_; · simp only [go_sem, Nat.reduceEqDiff, Nat.reduceAdd, Nat.reduceLeDiff]; (first | done | rfl))
    | refine w_skip ?_ | refine w_exit ?_ | refine w_ret ?_
    )
          refine ⟨⟨⟨?_, ?_, ?_, ?_, ?_, ?_, ?_⟩, ?_, ?_⟩, ?_, ?_⟩
          · simp only [go_sem, Nat.reduceEqDiff, Nat.reduceAdd, Nat.reduceLeDiff, h1]
          · simp only [go_sem, Nat.reduceEqDiff, Nat.reduceAdd, Nat.reduceLeDiff, h2]
          · simp only [go_sem, Nat.reduceEqDiff, Nat.reduceAdd, Nat.reduceLeDiff, h3]
          · simp only [go_sem, Nat.reduceEqDiff, Nat.reduceAdd, Nat.reduceLeDiff, h4]
          · simp only [go_sem, Nat.reduceEqDiff, Nat.reduceAdd, Nat.reduceLeDiff, h5]
          · simp only [go_sem, Nat.reduceEqDiff, Nat.reduceAdd, Nat.reduceLeDiff, h6]
          · simp only [go_sem, Nat.reduceEqDiff, Nat.reduceAdd, Nat.reduceLeDiff, h7]
          · simp only [go_sem, Nat.reduceEqDiff, Nat.reduceAdd, Nat.reduceLeDiff, h8]
          · simp only [go_sem, Nat.reduceEqDiff, Nat.reduceAdd, Nat.reduceLeDiff]; exact hg3
          · simp only [go_sem, Nat.reduceEqDiff, Nat.reduceAdd, Nat.reduceLeDiff, hti]
          · simp only [go_sem, Nat.reduceEqDiff, Nat.reduceAdd, Nat.reduceLeDiff, htn]
        | false =>
          rw [hb, if_neg (by decide), List.append_nil] at hrs
          rw [hmi] at hb
          (repeat' first
    | refine w_seq ?_ | refine w_rg ?_ | refine wo_nil ?_ | refine g_skU ?_
    | ((first | apply s_plain | apply s_void | apply s_guard); · simp only [go_sem, Nat.reduceEqDiff, Nat.reduceAdd, Nat.reduceLeDiff, hb]; (first | done | rfl))
    | ((first | apply g_T | apply g_F); · intro hb; simp only [go_sem, Nat.reduceEqDiff, Nat.reduceAdd, Nat.reduceLeDiff, hb, hb]; (first | done | rfl))
    | ((first | apply g_gT | apply g_gF); · intro hb hc; simp only [go_sem, Nat.reduceEqDiff, Nat.reduceAdd, Nat.reduceLeDiff, hb, hb, hc]; (first | done | rfl))
    | refine g_skT ?_ | refine g_skF ?_
    | ((first | apply g_goT | apply g_goF); · simp only [go_sem, Nat.reduceEqDiff, Nat.reduceAdd, Nat.reduceLeDiff, hb]; (first | done | rfl))
    | (refine w_condT ?_ ?_; · simp only [go_sem, Nat.reduceEqDiff, Nat.reduceAdd, Nat.reduceLeDiff, hb]; (first | done | rfl))
    | (refine w_condF ?_ ?_; · simp only [go_sem, Nat.reduceEqDiff, Nat.reduceAdd, Nat.reduceLeDiff, hb]; (first | done | rfl))
    | refine w_skip ?_ | refine w_exit ?_ | refine w_ret ?_
    )
          refine ⟨⟨⟨?_, ?_, ?_, ?_, ?_, ?_, ?_⟩, ?_, ?_⟩, ?_, ?_⟩
          · simp only [go_sem, Nat.reduceEqDiff, Nat.reduceAdd, Nat.reduceLeDiff, h1]
          · simp only [go_sem, Nat.reduceEqDiff, Nat.reduceAdd, Nat.reduceLeDiff, h2]
          · simp only [go_sem, Nat.reduceEqDiff, Nat.reduceAdd, Nat.reduceLeDiff, h3]
          · simp only [go_sem, Nat.reduceEqDiff, Nat.reduceAdd, Nat.reduceLeDiff, h4]
          · simp only [go_sem, Nat.reduceEqDiff, Nat.reduceAdd, Nat.reduceLeDiff, h5]
          · simp only [go_sem, Nat.reduceEqDiff, Nat.reduceAdd, Nat.reduceLeDiff, h6]
          · simp only [go_sem, Nat.reduceEqDiff, Nat.reduceAdd, Nat.reduceLeDiff, h7]
          · simp only [go_sem, Nat.reduceEqDiff, Nat.reduceAdd, Nat.reduceLeDiff, h8]
          · simp only [go_sem, Nat.reduceEqDiff, Nat.reduceAdd, Nat.reduceLeDiff]; rw [hrs]; exact (hg.new _).put (d := 21) (by decide) _
          · simp only [go_sem, Nat.reduceEqDiff, Nat.reduceAdd, Nat.reduceLeDiff, hti]
          · simp only [go_sem, Nat.reduceEqDiff, Nat.reduceAdd, Nat.reduceLeDiff, htn]
      · rintro fr σ ⟨⟨h1, h2, h3, h4, h5, h6, h7⟩, h8, hg⟩
        try simp only [if_true]
        rw [List.take_of_length_le (Nat.le_refl _)] at hg
        have hfz := hg.fz (strs_fz σ _)
        (repeat' first
    | refine w_seq ?_ | refine w_rg ?_ | refine wo_nil ?_ | refine g_skU ?_
    | ((first | apply s_plain | apply s_void | apply s_guard); · simp only [go_sem, Nat.reduceEqDiff, Nat.reduceAdd, Nat.reduceLeDiff, h1]; (first | done | rfl))
    | ((first | apply g_T | apply g_F); · intro hb; simp only [go_sem, Nat.reduceEqDiff, Nat.reduceAdd, Nat.reduceLeDiff, h1, hb]; (first | done | rfl))
    | ((first | apply g_gT | apply g_gF); · intro hb hc; simp only [go_sem, Nat.reduceEqDiff, Nat.reduceAdd, Nat.reduceLeDiff, h1, hb, hc]; (first | done | rfl))
    | refine g_skT ?_ | refine g_skF ?_
    | ((first | apply g_goT | apply g_goF); · simp only [go_sem, Nat.reduceEqDiff, Nat.reduceAdd, Nat.reduceLeDiff, h1]; (first | done | rfl))
    )
        refine s_call (as := [.sl (labs x), .sl (strs ((restL x k).map (·.1)))]) (by simp only [go_sem, Nat.reduceEqDiff, Nat.reduceAdd, Nat.reduceLeDiff, h1, hfz]) h244r ?_
        intro τ4
        (repeat' first
    | refine w_seq ?_ | refine w_rg ?_ | refine wo_nil ?_ | refine g_skU ?_
    | ((first | apply s_plain | apply s_void | apply s_guard); · simp only [go_sem, Nat.reduceEqDiff, Nat.reduceAdd, Nat.reduceLeDiff]; (first | done | rfl))
    | ((first | apply g_T | apply g_F); · intro hb; simp only [go_sem, Nat.reduceEqDiff, Nat.reduceAdd, Nat.reduceLeDiff, hb]; (first | done | rfl))
    | ((first | apply g_gT | apply g_gF); · intro hb hc; simp only [go_sem, Nat.reduceEqDiff, Nat.reduceAdd, Nat.reduceLeDiff, hb, hc]; (first | done | rfl))
    | refine g_skT ?_ | refine g_skF ?_
    | ((first | apply g_goT | apply g_goF); · simp only [go_sem, Nat.reduceEqDiff, Nat.reduceAdd, Nat.reduceLeDiff]; (first | done | rfl))
    )
        (repeat' first
    | refine w_seq ?_ | refine w_rg ?_ | refine wo_nil ?_ | refine g_skU ?_
    | ((first | apply s_plain | apply s_void | apply s_guard); · simp only [go_sem, Nat.reduceEqDiff, Nat.reduceAdd, Nat.reduceLeDiff, h1, h2, h3, h4, h5, h6, h7, h116, h192, h192k]; (first | done | rfl))
    | ((first | apply g_T | apply g_F); · intro hb; simp only [go_sem, Nat.reduceEqDiff, Nat.reduceAdd, Nat.reduceLeDiff, h1, h2, h3, h4, h5, h6, h7, h116, h192, h192k, hb]; (first | done | rfl))
    | ((first | apply g_gT | apply g_gF); · intro hb hc; simp only [go_sem, Nat.reduceEqDiff, Nat.reduceAdd, Nat.reduceLeDiff, h1, h2, h3, h4, h5, h6, h7, h116, h192, h192k, hb, hc]; (first | done | rfl))
    | refine g_skT ?_ | refine g_skF ?_
    | ((first | apply g_goT | apply g_goF); · simp only [go_sem, Nat.reduceEqDiff, Nat.reduceAdd, Nat.reduceLeDiff, h1, h2, h3, h4, h5, h6, h7, h116, h192, h192k]; (first | done | rfl))
    | (refine w_condT ?_ ?_; · simp only [go_sem, Nat.reduceEqDiff, Nat.reduceAdd, Nat.reduceLeDiff, h1, h2, h3, h4, h5, h6, h7, h116, h192, h192k]; (first | done | rfl))
    | (refine w_condF ?_ ?_; · simp only [go_sem, Nat.reduceEqDiff, Nat.reduceAdd, Nat.reduceLeDiff, h1, h2, h3, h4, h5, h6, h7, h116, h192, h192k]; (first | done | rfl))
    | refine w_skip ?_ | refine w_exit ?_ | refine w_ret ?_
    )
        refine ⟨.inr rfl, ?_⟩
        simp only [go_sem, Nat.reduceEqDiff, Nat.reduceAdd, Nat.reduceLeDiff, retOf, resOf]
        simp
      · refine ⟨⟨?_, ?_, ?_, ?_, ?_, ?_, ?_⟩, ?_, ?_⟩
        · simp only [go_sem, Nat.reduceEqDiff, Nat.reduceAdd, Nat.reduceLeDiff]
        · simp only [go_sem, Nat.reduceEqDiff, Nat.reduceAdd, Nat.reduceLeDiff]
        · simp only [go_sem, Nat.reduceEqDiff, Nat.reduceAdd, Nat.reduceLeDiff]
        · simp only [go_sem, Nat.reduceEqDiff, Nat.reduceAdd, Nat.reduceLeDiff]
        · simp only [go_sem, Nat.reduceEqDiff, Nat.reduceAdd, Nat.reduceLeDiff]
        · simp only [go_sem, Nat.reduceEqDiff, Nat.reduceAdd, Nat.reduceLeDiff]
        · simp only [go_sem, Nat.reduceEqDiff, Nat.reduceAdd, Nat.reduceLeDiff]
        · simp only [go_sem, Nat.reduceEqDiff, Nat.reduceAdd, Nat.reduceLeDiff]
        · simp only [go_sem, Nat.reduceEqDiff, Nat.reduceAdd, Nat.reduceLeDiff]; exact .em
      · simp only [go_sem, Nat.reduceEqDiff, Nat.reduceAdd, Nat.reduceLeDiff]
      · simp only [go_sem, Nat.reduceEqDiff, Nat.reduceAdd, Nat.reduceLeDiff, hxl]
    · have h1 := new_err a he
      have hc := new_codes a he
      generalize newL a = xe at *
      obtain ⟨x, e⟩ := xe
      simp only at he hc h1
      subst h1
      rcases hc with rfl | rfl | rfl
      · (repeat' first
    | refine w_seq ?_ | refine w_rg ?_ | refine wo_nil ?_ | refine g_skU ?_
    | ((first | apply s_plain | apply s_void | apply s_guard); · simp only [go_sem, Nat.reduceEqDiff, Nat.reduceAdd, Nat.reduceLeDiff]; (first | done | rfl))
    | ((first | apply g_T | apply g_F); · intro hb; simp only [go_sem, Nat.reduceEqDiff, Nat.reduceAdd, Nat.reduceLeDiff, hb]; (first | done | rfl))
    | ((first | apply g_gT | apply g_gF); · intro hb hc; simp only [go_sem, Nat.reduceEqDiff, Nat.reduceAdd, Nat.reduceLeDiff, hb, hc]; (first | done | rfl))
    | refine g_skT ?_ | refine g_skF ?_
    | ((first | apply g_goT | apply g_goF); · simp only [go_sem, Nat.reduceEqDiff, Nat.reduceAdd, Nat.reduceLeDiff]; (first | done | rfl))
    | (refine w_condT ?_ ?_; · simp only [go_sem, Nat.reduceEqDiff, Nat.reduceAdd, Nat.reduceLeDiff]; (first | done | rfl))
    | (refine w_condF ?_ ?_; · simp only [go_sem, Nat.reduceEqDiff, Nat.reduceAdd, Nat.reduceLeDiff]; (first | done | rfl))
    | refine w_skip ?_ | refine w_exit ?_ | refine w_ret ?_
    )
        exact ⟨.inr rfl, by simp only [go_sem, Nat.reduceEqDiff, Nat.reduceAdd, Nat.reduceLeDiff, retOf, resOf]; rfl⟩
      · (repeat' first
    | refine w_seq ?_ | refine w_rg ?_ | refine wo_nil ?_ | refine g_skU ?_
    | ((first | apply s_plain | apply s_void | apply s_guard); · simp only [go_sem, Nat.reduceEqDiff, Nat.reduceAdd, Nat.reduceLeDiff]; (first | done | rfl))
    | ((first | apply g_T | apply g_F); · intro hb; simp only [go_sem, Nat.reduceEqDiff, Nat.reduceAdd, Nat.reduceLeDiff, hb]; (first | done | rfl))
    | ((first | apply g_gT | apply g_gF); · intro hb hc; simp only [go_sem, Nat.reduceEqDiff, Nat.reduceAdd, Nat.reduceLeDiff, hb, hc]; (first | done | rfl))
    | refine g_skT ?_ | refine g_skF ?_
    | ((first | apply g_goT | apply g_goF); · simp only [go_sem, Nat.reduceEqDiff, Nat.reduceAdd, Nat.reduceLeDiff]; (first | done | rfl))
    | (refine w_condT ?_ ?_; · simp only [go_sem, Nat.reduceEqDiff, Nat.reduceAdd, Nat.reduceLeDiff]; (first | done | rfl))
    | (refine w_condF ?_ ?_; · simp only [go_sem, Nat.reduceEqDiff, Nat.reduceAdd, Nat.reduceLeDiff]; (first | done | rfl))
    | refine w_skip ?_ | refine w_exit ?_ | refine w_ret ?_
    )
        exact ⟨.inr rfl, by simp only [go_sem, Nat.reduceEqDiff, Nat.reduceAdd, Nat.reduceLeDiff, retOf, resOf]; rfl⟩
      · (repeat' first
    | refine w_seq ?_ | refine w_rg ?_ | refine wo_nil ?_ | refine g_skU ?_
    | ((first | apply s_plain | apply s_void | apply s_guard); · simp only [go_sem, Nat.reduceEqDiff, Nat.reduceAdd, Nat.reduceLeDiff]; (first | done | rfl))
    | ((first | apply g_T | apply g_F); · intro hb; simp only [go_sem, Nat.reduceEqDiff, Nat.reduceAdd, Nat.reduceLeDiff, hb]; (first | done | rfl))
    | ((first | apply g_gT | apply g_gF); · intro hb hc; simp only [go_sem, Nat.reduceEqDiff, Nat.reduceAdd, Nat.reduceLeDiff, hb, hc]; (first | done | rfl))
    | refine g_skT ?_ | refine g_skF ?_
    | ((first | apply g_goT | apply g_goF); · simp only [go_sem, Nat.reduceEqDiff, Nat.reduceAdd, Nat.reduceLeDiff]; (first | done | rfl))
    | (refine w_condT ?_ ?_; · simp only [go_sem, Nat.reduceEqDiff, Nat.reduceAdd, Nat.reduceLeDiff]; (first | done | rfl))
    | (refine w_condF ?_ ?_; · simp only [go_sem, Nat.reduceEqDiff, Nat.reduceAdd, Nat.reduceLeDiff]; (first | done | rfl))
    | refine w_skip ?_ | refine w_exit ?_ | refine w_ret ?_
    )
        exact ⟨.inr rfl, by simp only [go_sem, Nat.reduceEqDiff, Nat.reduceAdd, Nat.reduceLeDiff, retOf, resOf]; rfl⟩
end
end Go.Proofs.YtjijlmfhnkipmaaDoorPv
