/-
The document's text of a set of labels.
-/
import Derived.Test.YtjijlmfhnkipmaaDoorPvSu
namespace Go.Proofs.YtjijlmfhnkipmaaDoorPv
open Go
set_option linter.unusedSimpArgs false
set_option linter.unusedVariables false
set_option maxHeartbeats 4000000
attribute [local go_sem ↓] e_mv e_pick e_bin e_eqs e_beq e_un e_cvi e_str e_s2b e_b2s e_box e_build e_bsl e_ld e_st e_nck e_mkf e_slcS e_slcL e_fa e_fld e_ia e_iaa e_ix e_ixa e_ext e_lenS e_lenL e_mnmx e_app e_msl e_clr e_call e_callv pa_t pa_c pa_f slcSP_str hiOf_some hiOf_none loOf_some loOf_none set_eq set_ne
attribute [local go_sem] pv pv1 simple frOf_0 frOf_1 frOf_2 frOf_3 frOf_4 frOf_5 ne_eq not_false_eq_true if_true Bool.false_eq_true if_false pbin punary Option.map_some Option.bind_some pick_and pick_or opt_true Bool.true_and Bool.and_self Bool.and_true Bool.true_or Bool.false_or Bool.not_true Bool.not_false callE pcall_eq List.map_cons List.map_nil List.append_nil List.nil_append List.cons_append mapM_cons' mapM_nil' dep_eq fz_sc fz_sl fz_em fz_fn fz_fp fz_agg fz_bx fz_ob Nat.lt_irrefl Nat.zero_lt_one Nat.lt_add_one flat clL cl Bool.or_true okc cells_agg cells_sc cells_sl cells_em cells_ob cells_fn cells_bx cells_fp List.length_cons List.length_nil Nat.zero_add and_self true_and and_true new_m new_c put_m put_c nil_m nil_c deref List.getElem?_cons_zero List.getElem?_cons_succ List.drop_zero List.drop_succ_cons List.take_succ_cons List.take_zero Nat.le_refl false_and and_false
set_option maxRecDepth 8000

section
variable {env : Nat → Option Def} {fr : Fr} {σ σ' : St} {K : Fr → St → Prop} {Q : X → Fr → St → Prop}

def bp (l : List UInt8) : List PV := l.map fun b => .sc (.int .u8 b.toNat)

theorem bp_app (a b : List UInt8) : bp (a ++ b) = bp a ++ bp b := by simp [bp]
theorem bp_len (a : List UInt8) : (bp a).length = a.length := by simp [bp]
theorem bp_bytes (s : ByteArray) : bytesPV s = bp s.data.toList := rfl
theorem bp_ok (l : List UInt8) : ((bp l).all fun y => okc y && (cellsOf y).length == 1) = true := by
  rw [List.all_eq_true]
  intro x hx
  simp only [bp, List.mem_map] at hx
  obtain ⟨m, _, rfl⟩ := hx
  rfl
theorem bp_back (l : List UInt8) : (bp l).mapM byteOf = some l := by
  induction l with
  | nil => rfl
  | cons b r ih =>
    show List.mapM byteOf (.sc (.int .u8 b.toNat) :: bp r) = _
    rw [mapM_cons', ih]
    simp [byteOf]

theorem gat_elems {os : List Nat} {es : Nat} {w : Bool} {p : PV} {xs : List PV} (hg : Gat σ os es w p xs) : elemsOf σ p = some xs := by
  rcases hg with ⟨rfl, rfl⟩ | ⟨o, g, wr, h0, rfl, h2, h3, h4, h5⟩
  · rfl
  · simp [elemsOf, h2]

theorem join_snoc (sep x : List UInt8) : ∀ xs : List (List UInt8), Lib.join (xs ++ [x]) sep = if xs = [] then x else Lib.join xs sep ++ sep ++ x
  | [] => by simp [Lib.join_one]
  | y :: r => by
    rw [List.cons_append, Lib.join_cons, Lib.join_cons]
    simp [Lib.joinTail]

/-- The text as far as the first i labels. -/
def preT (l : List Lab) (i : Nat) : List UInt8 := 123 :: Lib.join ((l.take i).map fun m => (markS m).data.toList) [44]

theorem mark_bytes (m : Lab) : (markS m).data.toList = m.1.data.toList ++ [61, 34] ++ esc m.2.data.toList ++ [34] := by
  simp [markS, escS, ByteArray.data_append]

theorem preT_succ {l : List Lab} {i : Nat} (hi : i < l.length) : preT l (i + 1) = preT l i ++ (if (i : Int) > 0 then [44] else []) ++ l[i].1.data.toList ++ [61, 34] ++ esc l[i].2.data.toList ++ [34] := by
  unfold preT
  rw [List.take_succ_eq_append_getElem hi, List.map_append, List.map_cons, List.map_nil, join_snoc, mark_bytes]
  cases i with
  | zero => simp [Lib.join]
  | succ i =>
    have hne : (l.take (i + 1)).map (fun m => (markS m).data.toList) ≠ [] := by
      intro h
      have h2 := congrArg List.length h
      simp only [List.length_map, List.length_take, List.length_nil] at h2
      omega
    rw [if_neg hne, if_pos (by omega)]
    simp

theorem preT_len {l : List Lab} (hsz : ∀ m ∈ l, m.1.size ≤ 64 ∧ m.2.size ≤ 64) (h8 : l.length ≤ 8) (i : Nat) : (preT l i).length ≤ 1700 := by
  have hj := join_len [44] ((l.take i).map fun m => (markS m).data.toList) (fun x hx => by
    obtain ⟨m, hm, rfl⟩ := List.mem_map.1 hx
    exact mark_size (hsz m (List.mem_of_mem_take hm)).1 (hsz m (List.mem_of_mem_take hm)).2) (by simp)
  rw [List.length_map, List.length_take] at hj
  simp only [preT, List.length_cons]
  omega

theorem esc_succ {v : List UInt8} {k : Nat} {u : UInt8} (hu : v[k]? = some u) : esc (v.take (k + 1)) = esc (v.take k) ++ (if u = 34 ∨ u = 92 then [92] else []) ++ [u] := by
  obtain ⟨hk, rfl⟩ := List.getElem?_eq_some_iff.1 hu
  rw [List.take_succ_eq_append_getElem hk]
  unfold esc
  rw [List.flatMap_append]
  simp only [List.flatMap_cons, List.flatMap_nil, List.append_nil, List.append_assoc]
  congr 1
  split <;> rfl

def OS : List Nat := [7, 19, 24, 27, 49, 56, 59]

/-- What stands while a label is written. -/
structure Wr (l : List Lab) (i : Nat) (m : Lab) (out : List UInt8) (fr : Fr) (σ : St) : Prop where
  f8 : fr 8 = .sl (labs l)
  f9 : fr 9 = .sc (.int .i64 l.length)
  f10 : fr 10 = .sc (.int .i64 i)
  f4 : fr 4 = .sc (.int .i64 i)
  f5 : ∃ g, fr 5 = .bx 5 g 2 0 0 ∧ σ.m 5 g = some ⟨2, [.agg [.sc (.string m.1), .sc (.string m.2)]], true, true⟩ ∧ g < σ.c 5
  g3 : Gat σ OS 1 false (fr 3) (bp out)

theorem Gat.one {d es : Nat} {w : Bool} {p : PV} {xs : List PV} {os : List Nat} (h : Gat σ [d] es w p xs) (hd : d ∈ os) : Gat σ os es false p xs := h.mono (by intro o ho; simp at ho; subst ho; exact hd)

theorem keep5 {os : List Nat} {g : Nat} {x : Obj} (hk : Keeps σ σ' os) (h5 : 5 ∉ os) (hm : σ.m 5 g = some x) (hg : g < σ.c 5) : σ'.m 5 g = some x ∧ g < σ'.c 5 :=
  ⟨by rw [hk.m 5 g h5 hg]; exact hm, Nat.lt_of_lt_of_le hg (hk.c 5)⟩

theorem new5 {d g : Nat} {x y : Obj} (hd : d ≠ 5) (hm : σ.m 5 g = some x) (hg : g < σ.c 5) : (σ.new d y).m 5 g = some x ∧ g < (σ.new d y).c 5 :=
  ⟨by simp only [new_m]; rw [if_neg (fun h => hd h.1.symm)]; exact hm, by simp only [new_c]; rw [if_neg (Ne.symm hd)]; exact hg⟩

theorem a211 (U : Has lu env) {l : List Lab} (hsz : ∀ m ∈ l, m.1.size ≤ 64 ∧ m.2.size ≤ 64) (h8 : l.length ≤ 8) : AV env 211 [.sl (labs l)] = some (.sc (.string (textS l))) := by
  have hll := labs_len l
  have hpl := preT_len hsz h8
  refine AV_wp (U (211, d211) (by simp [lu])) rfl ?_
  (repeat' first
    | refine w_seq ?_
    | refine w_rg ?_
    | refine wo_nil ?_
    | refine s_plain (by simp only [go_sem, Nat.reduceEqDiff, Nat.reduceAdd, Nat.reduceLeDiff, hll, fillE, List.replicate_succ, List.replicate_zero, List.set_cons_zero]; first | done | rfl) ?_
    | refine s_void (by simp only [go_sem, Nat.reduceEqDiff, Nat.reduceAdd, Nat.reduceLeDiff, hll, fillE, List.replicate_succ, List.replicate_zero, List.set_cons_zero]; first | done | rfl) ?_
    | refine s_guard (by simp only [go_sem, Nat.reduceEqDiff, Nat.reduceAdd, Nat.reduceLeDiff, hll, fillE, List.replicate_succ, List.replicate_zero, List.set_cons_zero]; first | done | rfl) ?_
    | refine g_skU ?_
    | refine g_T (by intro hb; simp only [go_sem, Nat.reduceEqDiff, Nat.reduceAdd, Nat.reduceLeDiff, hll, fillE, List.replicate_succ, List.replicate_zero, List.set_cons_zero, hb]; first | done | rfl) ?_
    | refine g_F (by intro hb; simp only [go_sem, Nat.reduceEqDiff, Nat.reduceAdd, Nat.reduceLeDiff, hll, fillE, List.replicate_succ, List.replicate_zero, List.set_cons_zero, hb]; first | done | rfl) ?_
    | refine g_gT (by intro hb hc; simp only [go_sem, Nat.reduceEqDiff, Nat.reduceAdd, Nat.reduceLeDiff, hll, fillE, List.replicate_succ, List.replicate_zero, List.set_cons_zero, hb, hc]; first | done | rfl) ?_
    | refine g_gF (by intro hb hc; simp only [go_sem, Nat.reduceEqDiff, Nat.reduceAdd, Nat.reduceLeDiff, hll, fillE, List.replicate_succ, List.replicate_zero, List.set_cons_zero, hb, hc]; first | done | rfl) ?_
    | refine g_skT ?_
    | refine g_skF ?_
    | refine g_goT (by simp only [go_sem, Nat.reduceEqDiff, Nat.reduceAdd, Nat.reduceLeDiff, hll, fillE, List.replicate_succ, List.replicate_zero, List.set_cons_zero]; first | done | rfl) ?_
    | refine g_goF (by simp only [go_sem, Nat.reduceEqDiff, Nat.reduceAdd, Nat.reduceLeDiff, hll, fillE, List.replicate_succ, List.replicate_zero, List.set_cons_zero]; first | done | rfl) ?_
    )
  refine w_block (w_range l.length (by omega) (fun i fr σ => fr 8 = .sl (labs l) ∧ Gat σ OS 1 false (fr 3) (bp (preT l i))) (by decide) ?_ ?_ ?_ _ _ ?_ ?_ ?_)
  · rintro i fr σ v ⟨h0, h1⟩
    refine ⟨⟨?_, ?_⟩, ⟨?_, ?_⟩, ⟨?_, ?_⟩⟩ <;> simp only [go_sem, Nat.reduceEqDiff, Nat.reduceAdd, Nat.reduceLeDiff, h0, h1]
  · rintro i fr σ hi ⟨f8, hg⟩ hti htn
    have hy := labs_at (List.getElem?_eq_getElem hi)
    have e1 : (0 : Int) ≤ (i : Int) ∧ (i : Int) < (l.length : Int) := by omega
    have hz := hsz _ (List.getElem_mem hi)
    have hsuc := preT_succ hi
    generalize hm : l[i] = m at hy hz hsuc
    refine w_block ?_
    simp only [lab] at hy
    (repeat' first
    | refine w_seq ?_
    | refine w_rg ?_
    | refine wo_nil ?_
    | refine s_plain (by simp only [go_sem, Nat.reduceEqDiff, Nat.reduceAdd, Nat.reduceLeDiff, f8, hti, e1, hll, Int.toNat_natCast, hy, List.modify_zero_cons]; first | done | rfl) ?_
    | refine s_void (by simp only [go_sem, Nat.reduceEqDiff, Nat.reduceAdd, Nat.reduceLeDiff, f8, hti, e1, hll, Int.toNat_natCast, hy, List.modify_zero_cons]; first | done | rfl) ?_
    | refine s_guard (by simp only [go_sem, Nat.reduceEqDiff, Nat.reduceAdd, Nat.reduceLeDiff, f8, hti, e1, hll, Int.toNat_natCast, hy, List.modify_zero_cons]; first | done | rfl) ?_
    | refine g_skU ?_
    | refine g_T (by intro hb; simp only [go_sem, Nat.reduceEqDiff, Nat.reduceAdd, Nat.reduceLeDiff, f8, hti, e1, hll, Int.toNat_natCast, hy, List.modify_zero_cons, hb]; first | done | rfl) ?_
    | refine g_F (by intro hb; simp only [go_sem, Nat.reduceEqDiff, Nat.reduceAdd, Nat.reduceLeDiff, f8, hti, e1, hll, Int.toNat_natCast, hy, List.modify_zero_cons, hb]; first | done | rfl) ?_
    | refine g_gT (by intro hb hc; simp only [go_sem, Nat.reduceEqDiff, Nat.reduceAdd, Nat.reduceLeDiff, f8, hti, e1, hll, Int.toNat_natCast, hy, List.modify_zero_cons, hb, hc]; first | done | rfl) ?_
    | refine g_gF (by intro hb hc; simp only [go_sem, Nat.reduceEqDiff, Nat.reduceAdd, Nat.reduceLeDiff, f8, hti, e1, hll, Int.toNat_natCast, hy, List.modify_zero_cons, hb, hc]; first | done | rfl) ?_
    | refine g_skT ?_
    | refine g_skF ?_
    | refine g_goT (by simp only [go_sem, Nat.reduceEqDiff, Nat.reduceAdd, Nat.reduceLeDiff, f8, hti, e1, hll, Int.toNat_natCast, hy, List.modify_zero_cons]; first | done | rfl) ?_
    | refine g_goF (by simp only [go_sem, Nat.reduceEqDiff, Nat.reduceAdd, Nat.reduceLeDiff, f8, hti, e1, hll, Int.toNat_natCast, hy, List.modify_zero_cons]; first | done | rfl) ?_
    )
    refine w_gen (J := fun fr τ => Wr l i m (preT l i) fr τ ∧ fr 16 = .sc (.bool (decide ((i : Int) > 0)))) ⟨⟨by simp only [go_sem, Nat.reduceEqDiff, Nat.reduceAdd, Nat.reduceLeDiff, f8], by simp only [go_sem, Nat.reduceEqDiff, Nat.reduceAdd, Nat.reduceLeDiff, htn], by simp only [go_sem, Nat.reduceEqDiff, Nat.reduceAdd, Nat.reduceLeDiff, hti], by simp only [go_sem, Nat.reduceEqDiff, Nat.reduceAdd, Nat.reduceLeDiff, hti], ⟨σ.c 5, by simp only [go_sem, Nat.reduceEqDiff, Nat.reduceAdd, Nat.reduceLeDiff], by simp only [go_sem, Nat.reduceEqDiff, Nat.reduceAdd, Nat.reduceLeDiff], by simp only [go_sem, Nat.reduceEqDiff, Nat.reduceAdd, Nat.reduceLeDiff]; first | done | omega⟩, by simp only [go_sem, Nat.reduceEqDiff, Nat.reduceAdd, Nat.reduceLeDiff]; exact (hg.new _).put (d := 5) (by decide) _⟩, by simp only [go_sem, Nat.reduceEqDiff, Nat.reduceAdd, Nat.reduceLeDiff]⟩ ?_
    clear hg f8 hti htn fr σ
    rintro fr σ ⟨hW, h16⟩
    refine Wp.mono (Q := fun x fr τ => x = .normal ∧ Wr l i m (preT l i ++ (if (i : Int) > 0 then [44] else [])) fr τ) ?_ ?_
    · by_cases hi0 : (i : Int) > 0
      · obtain ⟨w8, w9, w10, w4, ⟨g5, w5, wm, wc⟩, wg⟩ := hW
        refine w_condT (by simp only [go_sem, Nat.reduceEqDiff, Nat.reduceAdd, Nat.reduceLeDiff, h16, hi0, decide_true]) ?_
        (repeat' first
    | refine w_seq ?_
    | refine w_rg ?_
    | refine wo_nil ?_
    | refine s_plain (by simp only [go_sem, Nat.reduceEqDiff, Nat.reduceAdd, Nat.reduceLeDiff, fillE, List.replicate_succ, List.replicate_zero, List.set_cons_zero, List.set_cons_succ]; first | done | rfl) ?_
    | refine s_void (by simp only [go_sem, Nat.reduceEqDiff, Nat.reduceAdd, Nat.reduceLeDiff, fillE, List.replicate_succ, List.replicate_zero, List.set_cons_zero, List.set_cons_succ]; first | done | rfl) ?_
    | refine s_guard (by simp only [go_sem, Nat.reduceEqDiff, Nat.reduceAdd, Nat.reduceLeDiff, fillE, List.replicate_succ, List.replicate_zero, List.set_cons_zero, List.set_cons_succ]; first | done | rfl) ?_
    | refine g_skU ?_
    | refine g_T (by intro hb; simp only [go_sem, Nat.reduceEqDiff, Nat.reduceAdd, Nat.reduceLeDiff, fillE, List.replicate_succ, List.replicate_zero, List.set_cons_zero, List.set_cons_succ, hb]; first | done | rfl) ?_
    | refine g_F (by intro hb; simp only [go_sem, Nat.reduceEqDiff, Nat.reduceAdd, Nat.reduceLeDiff, fillE, List.replicate_succ, List.replicate_zero, List.set_cons_zero, List.set_cons_succ, hb]; first | done | rfl) ?_
    | refine g_gT (by intro hb hc; simp only [go_sem, Nat.reduceEqDiff, Nat.reduceAdd, Nat.reduceLeDiff, fillE, List.replicate_succ, List.replicate_zero, List.set_cons_zero, List.set_cons_succ, hb, hc]; first | done | rfl) ?_
    | refine g_gF (by intro hb hc; simp only [go_sem, Nat.reduceEqDiff, Nat.reduceAdd, Nat.reduceLeDiff, fillE, List.replicate_succ, List.replicate_zero, List.set_cons_zero, List.set_cons_succ, hb, hc]; first | done | rfl) ?_
    | refine g_skT ?_
    | refine g_skF ?_
    | refine g_goT (by simp only [go_sem, Nat.reduceEqDiff, Nat.reduceAdd, Nat.reduceLeDiff, fillE, List.replicate_succ, List.replicate_zero, List.set_cons_zero, List.set_cons_succ]; first | done | rfl) ?_
    | refine g_goF (by simp only [go_sem, Nat.reduceEqDiff, Nat.reduceAdd, Nat.reduceLeDiff, fillE, List.replicate_succ, List.replicate_zero, List.set_cons_zero, List.set_cons_succ]; first | done | rfl) ?_
    )
        refine s_gatL (os := OS) (ys := [.sc (.int .u8 44)]) (by simp only [go_sem, Nat.reduceEqDiff, Nat.reduceAdd, Nat.reduceLeDiff]; exact wg.new _) (by simp only [go_sem, Nat.reduceEqDiff, Nat.reduceAdd, Nat.reduceLeDiff, srcOf, elemsOf]) rfl (by rw [bp_len]; have := hpl i; simp only [List.length_cons, List.length_nil]; omega) ?_
        intro p τ hg2 kp
        have k6 := keep5 kp (by decide) (new5 (by decide) wm wc).1 (new5 (by decide) wm wc).2
        (repeat' first
    | refine w_seq ?_
    | refine w_rg ?_
    | refine wo_nil ?_
    | refine s_plain (by simp only [go_sem, Nat.reduceEqDiff, Nat.reduceAdd, Nat.reduceLeDiff]; first | done | rfl) ?_
    | refine s_void (by simp only [go_sem, Nat.reduceEqDiff, Nat.reduceAdd, Nat.reduceLeDiff]; first | done | rfl) ?_
    | refine s_guard (by simp only [go_sem, Nat.reduceEqDiff, Nat.reduceAdd, Nat.reduceLeDiff]; first | done | rfl) ?_
    | refine g_skU ?_
    | refine g_T (by intro hb; simp only [go_sem, Nat.reduceEqDiff, Nat.reduceAdd, Nat.reduceLeDiff, hb]; first | done | rfl) ?_
    | refine g_F (by intro hb; simp only [go_sem, Nat.reduceEqDiff, Nat.reduceAdd, Nat.reduceLeDiff, hb]; first | done | rfl) ?_
    | refine g_gT (by intro hb hc; simp only [go_sem, Nat.reduceEqDiff, Nat.reduceAdd, Nat.reduceLeDiff, hb, hc]; first | done | rfl) ?_
    | refine g_gF (by intro hb hc; simp only [go_sem, Nat.reduceEqDiff, Nat.reduceAdd, Nat.reduceLeDiff, hb, hc]; first | done | rfl) ?_
    | refine g_skT ?_
    | refine g_skF ?_
    | refine g_goT (by simp only [go_sem, Nat.reduceEqDiff, Nat.reduceAdd, Nat.reduceLeDiff]; first | done | rfl) ?_
    | refine g_goF (by simp only [go_sem, Nat.reduceEqDiff, Nat.reduceAdd, Nat.reduceLeDiff]; first | done | rfl) ?_
    )
        refine ⟨rfl, ⟨?_, ?_, ?_, ?_, ⟨g5, ?_, k6.1, k6.2⟩, ?_⟩⟩
        · simp only [go_sem, Nat.reduceEqDiff, Nat.reduceAdd, Nat.reduceLeDiff, w8]
        · simp only [go_sem, Nat.reduceEqDiff, Nat.reduceAdd, Nat.reduceLeDiff, w9]
        · simp only [go_sem, Nat.reduceEqDiff, Nat.reduceAdd, Nat.reduceLeDiff, w10]
        · simp only [go_sem, Nat.reduceEqDiff, Nat.reduceAdd, Nat.reduceLeDiff, w4]
        · simp only [go_sem, Nat.reduceEqDiff, Nat.reduceAdd, Nat.reduceLeDiff, w5]
        · simp only [go_sem, Nat.reduceEqDiff, Nat.reduceAdd, Nat.reduceLeDiff]
          rw [if_pos hi0, bp_app]
          exact hg2.one (by decide)
      · refine w_condF (by simp only [go_sem, Nat.reduceEqDiff, Nat.reduceAdd, Nat.reduceLeDiff, h16, hi0, decide_false]) (w_skip ⟨rfl, ?_⟩)
        rw [if_neg hi0, List.append_nil]
        exact hW
    · rintro x fr τ ⟨rfl, w8, w9, w10, w4, ⟨g5, w5, wm, wc⟩, wg⟩
      have hcl : (if (i : Int) > 0 then ([44] : List UInt8) else []).length ≤ 1 := by split <;> simp
      have hp0 := hpl i
      generalize (if (i : Int) > 0 then ([44] : List UInt8) else []) = cm at wg hcl hsuc
      have hb1 : (bytesPV m.1).length = m.1.size := bytes_len _
      (repeat' first
    | refine w_seq ?_
    | refine w_rg ?_
    | refine wo_nil ?_
    | refine s_plain (by simp only [go_sem, Nat.reduceEqDiff, Nat.reduceAdd, Nat.reduceLeDiff, w5, wm]; first | done | rfl) ?_
    | refine s_void (by simp only [go_sem, Nat.reduceEqDiff, Nat.reduceAdd, Nat.reduceLeDiff, w5, wm]; first | done | rfl) ?_
    | refine s_guard (by simp only [go_sem, Nat.reduceEqDiff, Nat.reduceAdd, Nat.reduceLeDiff, w5, wm]; first | done | rfl) ?_
    | refine g_skU ?_
    | refine g_T (by intro hb; simp only [go_sem, Nat.reduceEqDiff, Nat.reduceAdd, Nat.reduceLeDiff, w5, wm, hb]; first | done | rfl) ?_
    | refine g_F (by intro hb; simp only [go_sem, Nat.reduceEqDiff, Nat.reduceAdd, Nat.reduceLeDiff, w5, wm, hb]; first | done | rfl) ?_
    | refine g_gT (by intro hb hc; simp only [go_sem, Nat.reduceEqDiff, Nat.reduceAdd, Nat.reduceLeDiff, w5, wm, hb, hc]; first | done | rfl) ?_
    | refine g_gF (by intro hb hc; simp only [go_sem, Nat.reduceEqDiff, Nat.reduceAdd, Nat.reduceLeDiff, w5, wm, hb, hc]; first | done | rfl) ?_
    | refine g_skT ?_
    | refine g_skF ?_
    | refine g_goT (by simp only [go_sem, Nat.reduceEqDiff, Nat.reduceAdd, Nat.reduceLeDiff, w5, wm]; first | done | rfl) ?_
    | refine g_goF (by simp only [go_sem, Nat.reduceEqDiff, Nat.reduceAdd, Nat.reduceLeDiff, w5, wm]; first | done | rfl) ?_
    )
      refine s_gatL (os := OS) (ys := bytesPV m.1) (by simp only [go_sem, Nat.reduceEqDiff, Nat.reduceAdd, Nat.reduceLeDiff]; exact wg) (by simp only [go_sem, Nat.reduceEqDiff, Nat.reduceAdd, Nat.reduceLeDiff, srcOf, elemsOf]) (bp_ok _) (by rw [bp_len, hb1, List.length_append]; omega) ?_
      intro p1 τ1 q1 k1
      have m1 := keep5 k1 (by decide) wm wc
      rw [bp_bytes, ← bp_app] at q1
      (repeat' first
    | refine w_seq ?_
    | refine w_rg ?_
    | refine wo_nil ?_
    | refine s_plain (by simp only [go_sem, Nat.reduceEqDiff, Nat.reduceAdd, Nat.reduceLeDiff, fillE, List.replicate_succ, List.replicate_zero, List.set_cons_zero, List.set_cons_succ]; first | done | rfl) ?_
    | refine s_void (by simp only [go_sem, Nat.reduceEqDiff, Nat.reduceAdd, Nat.reduceLeDiff, fillE, List.replicate_succ, List.replicate_zero, List.set_cons_zero, List.set_cons_succ]; first | done | rfl) ?_
    | refine s_guard (by simp only [go_sem, Nat.reduceEqDiff, Nat.reduceAdd, Nat.reduceLeDiff, fillE, List.replicate_succ, List.replicate_zero, List.set_cons_zero, List.set_cons_succ]; first | done | rfl) ?_
    | refine g_skU ?_
    | refine g_T (by intro hb; simp only [go_sem, Nat.reduceEqDiff, Nat.reduceAdd, Nat.reduceLeDiff, fillE, List.replicate_succ, List.replicate_zero, List.set_cons_zero, List.set_cons_succ, hb]; first | done | rfl) ?_
    | refine g_F (by intro hb; simp only [go_sem, Nat.reduceEqDiff, Nat.reduceAdd, Nat.reduceLeDiff, fillE, List.replicate_succ, List.replicate_zero, List.set_cons_zero, List.set_cons_succ, hb]; first | done | rfl) ?_
    | refine g_gT (by intro hb hc; simp only [go_sem, Nat.reduceEqDiff, Nat.reduceAdd, Nat.reduceLeDiff, fillE, List.replicate_succ, List.replicate_zero, List.set_cons_zero, List.set_cons_succ, hb, hc]; first | done | rfl) ?_
    | refine g_gF (by intro hb hc; simp only [go_sem, Nat.reduceEqDiff, Nat.reduceAdd, Nat.reduceLeDiff, fillE, List.replicate_succ, List.replicate_zero, List.set_cons_zero, List.set_cons_succ, hb, hc]; first | done | rfl) ?_
    | refine g_skT ?_
    | refine g_skF ?_
    | refine g_goT (by simp only [go_sem, Nat.reduceEqDiff, Nat.reduceAdd, Nat.reduceLeDiff, fillE, List.replicate_succ, List.replicate_zero, List.set_cons_zero, List.set_cons_succ]; first | done | rfl) ?_
    | refine g_goF (by simp only [go_sem, Nat.reduceEqDiff, Nat.reduceAdd, Nat.reduceLeDiff, fillE, List.replicate_succ, List.replicate_zero, List.set_cons_zero, List.set_cons_succ]; first | done | rfl) ?_
    )
      refine s_gatL (os := [24]) (ys := [.sc (.int .u8 61), .sc (.int .u8 34)]) (by simp only [go_sem, Nat.reduceEqDiff, Nat.reduceAdd, Nat.reduceLeDiff]; exact q1.new _) (by simp only [go_sem, Nat.reduceEqDiff, Nat.reduceAdd, Nat.reduceLeDiff, srcOf, elemsOf]) rfl (by rw [bp_len]; simp only [List.length_append, List.length_cons, List.length_nil, Array.length_toList]; have : m.1.data.size = m.1.size := rfl; omega) ?_
      intro p2 τ2 q2 k2
      have m2 := keep5 k2 (by decide) (new5 (by decide) m1.1 m1.2).1 (new5 (by decide) m1.1 m1.2).2
      have q2' : Gat τ2 OS 1 false p2 (bp (preT l i ++ cm ++ m.1.data.toList ++ [61, 34])) := by
        rw [bp_app]; exact q2.one (by decide)
      have ho1 : (preT l i ++ cm ++ m.1.data.toList ++ [61, 34]).length ≤ 1800 := by
        simp only [List.length_append, List.length_cons, List.length_nil, Array.length_toList]
        have : m.1.data.size = m.1.size := rfl
        omega
      have hsuc' : preT l (i + 1) = (preT l i ++ cm ++ m.1.data.toList ++ [61, 34]) ++ esc m.2.data.toList ++ [34] := by rw [hsuc]
      generalize preT l i ++ cm ++ m.1.data.toList ++ [61, 34] = out1 at q2' ho1 hsuc'
      (repeat' first
    | refine w_seq ?_
    | refine w_rg ?_
    | refine wo_nil ?_
    | refine s_plain (by simp only [go_sem, Nat.reduceEqDiff, Nat.reduceAdd, Nat.reduceLeDiff]; first | done | rfl) ?_
    | refine s_void (by simp only [go_sem, Nat.reduceEqDiff, Nat.reduceAdd, Nat.reduceLeDiff]; first | done | rfl) ?_
    | refine s_guard (by simp only [go_sem, Nat.reduceEqDiff, Nat.reduceAdd, Nat.reduceLeDiff]; first | done | rfl) ?_
    | refine g_skU ?_
    | refine g_T (by intro hb; simp only [go_sem, Nat.reduceEqDiff, Nat.reduceAdd, Nat.reduceLeDiff, hb]; first | done | rfl) ?_
    | refine g_F (by intro hb; simp only [go_sem, Nat.reduceEqDiff, Nat.reduceAdd, Nat.reduceLeDiff, hb]; first | done | rfl) ?_
    | refine g_gT (by intro hb hc; simp only [go_sem, Nat.reduceEqDiff, Nat.reduceAdd, Nat.reduceLeDiff, hb, hc]; first | done | rfl) ?_
    | refine g_gF (by intro hb hc; simp only [go_sem, Nat.reduceEqDiff, Nat.reduceAdd, Nat.reduceLeDiff, hb, hc]; first | done | rfl) ?_
    | refine g_skT ?_
    | refine g_skF ?_
    | refine g_goT (by simp only [go_sem, Nat.reduceEqDiff, Nat.reduceAdd, Nat.reduceLeDiff]; first | done | rfl) ?_
    | refine g_goF (by simp only [go_sem, Nat.reduceEqDiff, Nat.reduceAdd, Nat.reduceLeDiff]; first | done | rfl) ?_
    )
      refine w_block (w_count m.2.size (fun k fr τ => Wr l i m (out1 ++ esc (m.2.data.toList.take k)) fr τ ∧ fr 6 = .sc (.int .i64 k)) ?_ _ _ ?_)
      · rintro k fr τ hk ⟨hV, v6⟩
        have hel : (esc (m.2.data.toList.take k)).length ≤ 128 := by
          have := esc_len (m.2.data.toList.take k)
          rw [List.length_take] at this
          have h0 : m.2.data.toList.length = m.2.size := by simp
          omega
        by_cases hlt : k < m.2.size
        · have hd : decide ((k : Int) < (m.2.size : Int)) = true := decide_eq_true (by omega)
          obtain ⟨u, hu, _⟩ := byte_get hlt
          have e1' : (0 : Int) ≤ (k : Int) := by omega
          have e2 := wrap_succ hlt (by omega)
          have hc : ((u.toNat : Int) == 34 || (u.toNat : Int) == 92) = decide (u = 34 ∨ u = 92) := by
            have x1 : ((u.toNat : Int) == 34) = decide (u = 34) := by
              rw [Bool.eq_iff_iff, beq_iff_eq, decide_eq_true_iff, ← UInt8.toNat_inj]
              exact ⟨fun h => by simpa using (by omega : u.toNat = 34), fun h => by rw [h]; rfl⟩
            have x2 : ((u.toNat : Int) == 92) = decide (u = 92) := by
              rw [Bool.eq_iff_iff, beq_iff_eq, decide_eq_true_iff, ← UInt8.toNat_inj]
              exact ⟨fun h => by simpa using (by omega : u.toNat = 92), fun h => by rw [h]; rfl⟩
            rw [x1, x2, Bool.decide_or]
          obtain ⟨v8, v9, v10, v4, ⟨g5, v5, vm, vc⟩, vg⟩ := hV
          (repeat' first
    | refine w_seq ?_
    | refine w_rg ?_
    | refine wo_nil ?_
    | refine s_plain (by simp only [go_sem, Nat.reduceEqDiff, Nat.reduceAdd, Nat.reduceLeDiff, v5, vm, v6, hd]; first | done | rfl) ?_
    | refine s_void (by simp only [go_sem, Nat.reduceEqDiff, Nat.reduceAdd, Nat.reduceLeDiff, v5, vm, v6, hd]; first | done | rfl) ?_
    | refine s_guard (by simp only [go_sem, Nat.reduceEqDiff, Nat.reduceAdd, Nat.reduceLeDiff, v5, vm, v6, hd]; first | done | rfl) ?_
    | refine g_skU ?_
    | refine g_T (by intro hb; simp only [go_sem, Nat.reduceEqDiff, Nat.reduceAdd, Nat.reduceLeDiff, v5, vm, v6, hd, hb]; first | done | rfl) ?_
    | refine g_F (by intro hb; simp only [go_sem, Nat.reduceEqDiff, Nat.reduceAdd, Nat.reduceLeDiff, v5, vm, v6, hd, hb]; first | done | rfl) ?_
    | refine g_gT (by intro hb hc; simp only [go_sem, Nat.reduceEqDiff, Nat.reduceAdd, Nat.reduceLeDiff, v5, vm, v6, hd, hb, hc]; first | done | rfl) ?_
    | refine g_gF (by intro hb hc; simp only [go_sem, Nat.reduceEqDiff, Nat.reduceAdd, Nat.reduceLeDiff, v5, vm, v6, hd, hb, hc]; first | done | rfl) ?_
    | refine g_skT ?_
    | refine g_skF ?_
    | refine g_goT (by simp only [go_sem, Nat.reduceEqDiff, Nat.reduceAdd, Nat.reduceLeDiff, v5, vm, v6, hd]; first | done | rfl) ?_
    | refine g_goF (by simp only [go_sem, Nat.reduceEqDiff, Nat.reduceAdd, Nat.reduceLeDiff, v5, vm, v6, hd]; first | done | rfl) ?_
    | refine w_condT (by simp only [go_sem, Nat.reduceEqDiff, Nat.reduceAdd, Nat.reduceLeDiff, v5, vm, v6, hd]; first | done | rfl) ?_
    | refine w_condF (by simp only [go_sem, Nat.reduceEqDiff, Nat.reduceAdd, Nat.reduceLeDiff, v5, vm, v6, hd]; first | done | rfl) ?_
    | refine w_skip ?_
    | refine w_exit ?_
    | refine w_ret ?_
    )
          refine w_block ?_
          (repeat' first
    | refine w_seq ?_
    | refine w_rg ?_
    | refine wo_nil ?_
    | refine s_plain (by simp only [go_sem, Nat.reduceEqDiff, Nat.reduceAdd, Nat.reduceLeDiff, v5, vm, v6, e1', Int.toNat_natCast, hu]; first | done | rfl) ?_
    | refine s_void (by simp only [go_sem, Nat.reduceEqDiff, Nat.reduceAdd, Nat.reduceLeDiff, v5, vm, v6, e1', Int.toNat_natCast, hu]; first | done | rfl) ?_
    | refine s_guard (by simp only [go_sem, Nat.reduceEqDiff, Nat.reduceAdd, Nat.reduceLeDiff, v5, vm, v6, e1', Int.toNat_natCast, hu]; first | done | rfl) ?_
    | refine g_skU ?_
    | refine g_T (by intro hb; simp only [go_sem, Nat.reduceEqDiff, Nat.reduceAdd, Nat.reduceLeDiff, v5, vm, v6, e1', Int.toNat_natCast, hu, hb]; first | done | rfl) ?_
    | refine g_F (by intro hb; simp only [go_sem, Nat.reduceEqDiff, Nat.reduceAdd, Nat.reduceLeDiff, v5, vm, v6, e1', Int.toNat_natCast, hu, hb]; first | done | rfl) ?_
    | refine g_gT (by intro hb hc; simp only [go_sem, Nat.reduceEqDiff, Nat.reduceAdd, Nat.reduceLeDiff, v5, vm, v6, e1', Int.toNat_natCast, hu, hb, hc]; first | done | rfl) ?_
    | refine g_gF (by intro hb hc; simp only [go_sem, Nat.reduceEqDiff, Nat.reduceAdd, Nat.reduceLeDiff, v5, vm, v6, e1', Int.toNat_natCast, hu, hb, hc]; first | done | rfl) ?_
    | refine g_skT ?_
    | refine g_skF ?_
    | refine g_goT (by simp only [go_sem, Nat.reduceEqDiff, Nat.reduceAdd, Nat.reduceLeDiff, v5, vm, v6, e1', Int.toNat_natCast, hu]; first | done | rfl) ?_
    | refine g_goF (by simp only [go_sem, Nat.reduceEqDiff, Nat.reduceAdd, Nat.reduceLeDiff, v5, vm, v6, e1', Int.toNat_natCast, hu]; first | done | rfl) ?_
    )
          refine w_gen (J := fun fr τ => Wr l i m (out1 ++ esc (m.2.data.toList.take k)) fr τ ∧ fr 6 = .sc (.int .i64 k) ∧ fr 46 = .sc (.bool (decide (u = 34 ∨ u = 92)))) ⟨⟨by simp only [go_sem, Nat.reduceEqDiff, Nat.reduceAdd, Nat.reduceLeDiff, v8], by simp only [go_sem, Nat.reduceEqDiff, Nat.reduceAdd, Nat.reduceLeDiff, v9], by simp only [go_sem, Nat.reduceEqDiff, Nat.reduceAdd, Nat.reduceLeDiff, v10], by simp only [go_sem, Nat.reduceEqDiff, Nat.reduceAdd, Nat.reduceLeDiff, v4], ⟨g5, by simp only [go_sem, Nat.reduceEqDiff, Nat.reduceAdd, Nat.reduceLeDiff, v5], vm, vc⟩, by simp only [go_sem, Nat.reduceEqDiff, Nat.reduceAdd, Nat.reduceLeDiff]; exact vg⟩, by simp only [go_sem, Nat.reduceEqDiff, Nat.reduceAdd, Nat.reduceLeDiff, v6], by simp only [go_sem, Nat.reduceEqDiff, Nat.reduceAdd, Nat.reduceLeDiff, hc]⟩ ?_
          clear v8 v9 v10 v4 v5 vm vc vg v6 fr τ
          rintro fr τ ⟨hV, v6, v46⟩
          refine Wp.mono (Q := fun x fr τ => x = .normal ∧ Wr l i m (out1 ++ esc (m.2.data.toList.take k) ++ (if u = 34 ∨ u = 92 then [92] else [])) fr τ ∧ fr 6 = .sc (.int .i64 k)) ?_ ?_
          · by_cases hq : u = 34 ∨ u = 92
            · obtain ⟨v8, v9, v10, v4, ⟨g5, v5, vm, vc⟩, vg⟩ := hV
              refine w_condT (by simp only [go_sem, Nat.reduceEqDiff, Nat.reduceAdd, Nat.reduceLeDiff, v46, decide_eq_true hq]) ?_
              (repeat' first
    | refine w_seq ?_
    | refine w_rg ?_
    | refine wo_nil ?_
    | refine s_plain (by simp only [go_sem, Nat.reduceEqDiff, Nat.reduceAdd, Nat.reduceLeDiff, fillE, List.replicate_succ, List.replicate_zero, List.set_cons_zero, List.set_cons_succ]; first | done | rfl) ?_
    | refine s_void (by simp only [go_sem, Nat.reduceEqDiff, Nat.reduceAdd, Nat.reduceLeDiff, fillE, List.replicate_succ, List.replicate_zero, List.set_cons_zero, List.set_cons_succ]; first | done | rfl) ?_
    | refine s_guard (by simp only [go_sem, Nat.reduceEqDiff, Nat.reduceAdd, Nat.reduceLeDiff, fillE, List.replicate_succ, List.replicate_zero, List.set_cons_zero, List.set_cons_succ]; first | done | rfl) ?_
    | refine g_skU ?_
    | refine g_T (by intro hb; simp only [go_sem, Nat.reduceEqDiff, Nat.reduceAdd, Nat.reduceLeDiff, fillE, List.replicate_succ, List.replicate_zero, List.set_cons_zero, List.set_cons_succ, hb]; first | done | rfl) ?_
    | refine g_F (by intro hb; simp only [go_sem, Nat.reduceEqDiff, Nat.reduceAdd, Nat.reduceLeDiff, fillE, List.replicate_succ, List.replicate_zero, List.set_cons_zero, List.set_cons_succ, hb]; first | done | rfl) ?_
    | refine g_gT (by intro hb hc; simp only [go_sem, Nat.reduceEqDiff, Nat.reduceAdd, Nat.reduceLeDiff, fillE, List.replicate_succ, List.replicate_zero, List.set_cons_zero, List.set_cons_succ, hb, hc]; first | done | rfl) ?_
    | refine g_gF (by intro hb hc; simp only [go_sem, Nat.reduceEqDiff, Nat.reduceAdd, Nat.reduceLeDiff, fillE, List.replicate_succ, List.replicate_zero, List.set_cons_zero, List.set_cons_succ, hb, hc]; first | done | rfl) ?_
    | refine g_skT ?_
    | refine g_skF ?_
    | refine g_goT (by simp only [go_sem, Nat.reduceEqDiff, Nat.reduceAdd, Nat.reduceLeDiff, fillE, List.replicate_succ, List.replicate_zero, List.set_cons_zero, List.set_cons_succ]; first | done | rfl) ?_
    | refine g_goF (by simp only [go_sem, Nat.reduceEqDiff, Nat.reduceAdd, Nat.reduceLeDiff, fillE, List.replicate_succ, List.replicate_zero, List.set_cons_zero, List.set_cons_succ]; first | done | rfl) ?_
    )
              refine s_gatL (os := OS) (ys := [.sc (.int .u8 92)]) (by simp only [go_sem, Nat.reduceEqDiff, Nat.reduceAdd, Nat.reduceLeDiff]; exact vg.new _) (by simp only [go_sem, Nat.reduceEqDiff, Nat.reduceAdd, Nat.reduceLeDiff, srcOf, elemsOf]) rfl (by rw [bp_len]; simp only [List.length_append, List.length_cons, List.length_nil]; omega) ?_
              intro p τ' hg2 kp
              have k6 := keep5 kp (by decide) (new5 (by decide) vm vc).1 (new5 (by decide) vm vc).2
              (repeat' first
    | refine w_seq ?_
    | refine w_rg ?_
    | refine wo_nil ?_
    | refine s_plain (by simp only [go_sem, Nat.reduceEqDiff, Nat.reduceAdd, Nat.reduceLeDiff]; first | done | rfl) ?_
    | refine s_void (by simp only [go_sem, Nat.reduceEqDiff, Nat.reduceAdd, Nat.reduceLeDiff]; first | done | rfl) ?_
    | refine s_guard (by simp only [go_sem, Nat.reduceEqDiff, Nat.reduceAdd, Nat.reduceLeDiff]; first | done | rfl) ?_
    | refine g_skU ?_
    | refine g_T (by intro hb; simp only [go_sem, Nat.reduceEqDiff, Nat.reduceAdd, Nat.reduceLeDiff, hb]; first | done | rfl) ?_
    | refine g_F (by intro hb; simp only [go_sem, Nat.reduceEqDiff, Nat.reduceAdd, Nat.reduceLeDiff, hb]; first | done | rfl) ?_
    | refine g_gT (by intro hb hc; simp only [go_sem, Nat.reduceEqDiff, Nat.reduceAdd, Nat.reduceLeDiff, hb, hc]; first | done | rfl) ?_
    | refine g_gF (by intro hb hc; simp only [go_sem, Nat.reduceEqDiff, Nat.reduceAdd, Nat.reduceLeDiff, hb, hc]; first | done | rfl) ?_
    | refine g_skT ?_
    | refine g_skF ?_
    | refine g_goT (by simp only [go_sem, Nat.reduceEqDiff, Nat.reduceAdd, Nat.reduceLeDiff]; first | done | rfl) ?_
    | refine g_goF (by simp only [go_sem, Nat.reduceEqDiff, Nat.reduceAdd, Nat.reduceLeDiff]; first | done | rfl) ?_
    )
              refine ⟨rfl, ⟨?_, ?_, ?_, ?_, ⟨g5, ?_, k6.1, k6.2⟩, ?_⟩, ?_⟩
              · simp only [go_sem, Nat.reduceEqDiff, Nat.reduceAdd, Nat.reduceLeDiff, v8]
              · simp only [go_sem, Nat.reduceEqDiff, Nat.reduceAdd, Nat.reduceLeDiff, v9]
              · simp only [go_sem, Nat.reduceEqDiff, Nat.reduceAdd, Nat.reduceLeDiff, v10]
              · simp only [go_sem, Nat.reduceEqDiff, Nat.reduceAdd, Nat.reduceLeDiff, v4]
              · simp only [go_sem, Nat.reduceEqDiff, Nat.reduceAdd, Nat.reduceLeDiff, v5]
              · simp only [go_sem, Nat.reduceEqDiff, Nat.reduceAdd, Nat.reduceLeDiff]
                rw [if_pos hq, bp_app]
                exact hg2.one (by decide)
              · simp only [go_sem, Nat.reduceEqDiff, Nat.reduceAdd, Nat.reduceLeDiff, v6]
            · refine w_condF (by simp only [go_sem, Nat.reduceEqDiff, Nat.reduceAdd, Nat.reduceLeDiff, v46, decide_eq_false hq]) (w_skip ⟨rfl, ?_, v6⟩)
              rw [if_neg hq, List.append_nil]
              exact hV
          · rintro x fr τ ⟨rfl, ⟨v8, v9, v10, v4, ⟨g5, v5, vm, vc⟩, vg⟩, v6⟩
            have hcl2 : (if u = 34 ∨ u = 92 then ([92] : List UInt8) else []).length ≤ 1 := by split <;> simp
            (repeat' first
    | refine w_seq ?_
    | refine w_rg ?_
    | refine wo_nil ?_
    | refine s_plain (by simp only [go_sem, Nat.reduceEqDiff, Nat.reduceAdd, Nat.reduceLeDiff, v5, vm, v6, e1', Int.toNat_natCast, hu, fillE, List.replicate_succ, List.replicate_zero, List.set_cons_zero, List.set_cons_succ]; first | done | rfl) ?_
    | refine s_void (by simp only [go_sem, Nat.reduceEqDiff, Nat.reduceAdd, Nat.reduceLeDiff, v5, vm, v6, e1', Int.toNat_natCast, hu, fillE, List.replicate_succ, List.replicate_zero, List.set_cons_zero, List.set_cons_succ]; first | done | rfl) ?_
    | refine s_guard (by simp only [go_sem, Nat.reduceEqDiff, Nat.reduceAdd, Nat.reduceLeDiff, v5, vm, v6, e1', Int.toNat_natCast, hu, fillE, List.replicate_succ, List.replicate_zero, List.set_cons_zero, List.set_cons_succ]; first | done | rfl) ?_
    | refine g_skU ?_
    | refine g_T (by intro hb; simp only [go_sem, Nat.reduceEqDiff, Nat.reduceAdd, Nat.reduceLeDiff, v5, vm, v6, e1', Int.toNat_natCast, hu, fillE, List.replicate_succ, List.replicate_zero, List.set_cons_zero, List.set_cons_succ, hb]; first | done | rfl) ?_
    | refine g_F (by intro hb; simp only [go_sem, Nat.reduceEqDiff, Nat.reduceAdd, Nat.reduceLeDiff, v5, vm, v6, e1', Int.toNat_natCast, hu, fillE, List.replicate_succ, List.replicate_zero, List.set_cons_zero, List.set_cons_succ, hb]; first | done | rfl) ?_
    | refine g_gT (by intro hb hc; simp only [go_sem, Nat.reduceEqDiff, Nat.reduceAdd, Nat.reduceLeDiff, v5, vm, v6, e1', Int.toNat_natCast, hu, fillE, List.replicate_succ, List.replicate_zero, List.set_cons_zero, List.set_cons_succ, hb, hc]; first | done | rfl) ?_
    | refine g_gF (by intro hb hc; simp only [go_sem, Nat.reduceEqDiff, Nat.reduceAdd, Nat.reduceLeDiff, v5, vm, v6, e1', Int.toNat_natCast, hu, fillE, List.replicate_succ, List.replicate_zero, List.set_cons_zero, List.set_cons_succ, hb, hc]; first | done | rfl) ?_
    | refine g_skT ?_
    | refine g_skF ?_
    | refine g_goT (by simp only [go_sem, Nat.reduceEqDiff, Nat.reduceAdd, Nat.reduceLeDiff, v5, vm, v6, e1', Int.toNat_natCast, hu, fillE, List.replicate_succ, List.replicate_zero, List.set_cons_zero, List.set_cons_succ]; first | done | rfl) ?_
    | refine g_goF (by simp only [go_sem, Nat.reduceEqDiff, Nat.reduceAdd, Nat.reduceLeDiff, v5, vm, v6, e1', Int.toNat_natCast, hu, fillE, List.replicate_succ, List.replicate_zero, List.set_cons_zero, List.set_cons_succ]; first | done | rfl) ?_
    )
            refine s_gatL (os := OS) (ys := [.sc (.int .u8 u.toNat)]) (by simp only [go_sem, Nat.reduceEqDiff, Nat.reduceAdd, Nat.reduceLeDiff]; exact vg.new _) (by simp only [go_sem, Nat.reduceEqDiff, Nat.reduceAdd, Nat.reduceLeDiff, srcOf, elemsOf]) rfl (by rw [bp_len]; simp only [List.length_append, List.length_cons, List.length_nil]; omega) ?_
            intro p τ' hg2 kp
            have k6 := keep5 kp (by decide) (new5 (by decide) vm vc).1 (new5 (by decide) vm vc).2
            (repeat' first
    | refine w_seq ?_
    | refine w_rg ?_
    | refine wo_nil ?_
    | refine s_plain (by simp only [go_sem, Nat.reduceEqDiff, Nat.reduceAdd, Nat.reduceLeDiff, v6, e2]; first | done | rfl) ?_
    | refine s_void (by simp only [go_sem, Nat.reduceEqDiff, Nat.reduceAdd, Nat.reduceLeDiff, v6, e2]; first | done | rfl) ?_
    | refine s_guard (by simp only [go_sem, Nat.reduceEqDiff, Nat.reduceAdd, Nat.reduceLeDiff, v6, e2]; first | done | rfl) ?_
    | refine g_skU ?_
    | refine g_T (by intro hb; simp only [go_sem, Nat.reduceEqDiff, Nat.reduceAdd, Nat.reduceLeDiff, v6, e2, hb]; first | done | rfl) ?_
    | refine g_F (by intro hb; simp only [go_sem, Nat.reduceEqDiff, Nat.reduceAdd, Nat.reduceLeDiff, v6, e2, hb]; first | done | rfl) ?_
    | refine g_gT (by intro hb hc; simp only [go_sem, Nat.reduceEqDiff, Nat.reduceAdd, Nat.reduceLeDiff, v6, e2, hb, hc]; first | done | rfl) ?_
    | refine g_gF (by intro hb hc; simp only [go_sem, Nat.reduceEqDiff, Nat.reduceAdd, Nat.reduceLeDiff, v6, e2, hb, hc]; first | done | rfl) ?_
    | refine g_skT ?_
    | refine g_skF ?_
    | refine g_goT (by simp only [go_sem, Nat.reduceEqDiff, Nat.reduceAdd, Nat.reduceLeDiff, v6, e2]; first | done | rfl) ?_
    | refine g_goF (by simp only [go_sem, Nat.reduceEqDiff, Nat.reduceAdd, Nat.reduceLeDiff, v6, e2]; first | done | rfl) ?_
    | refine w_condT (by simp only [go_sem, Nat.reduceEqDiff, Nat.reduceAdd, Nat.reduceLeDiff, v6, e2]; first | done | rfl) ?_
    | refine w_condF (by simp only [go_sem, Nat.reduceEqDiff, Nat.reduceAdd, Nat.reduceLeDiff, v6, e2]; first | done | rfl) ?_
    | refine w_skip ?_
    | refine w_exit ?_
    | refine w_ret ?_
    )
            refine ⟨hlt, ⟨?_, ?_, ?_, ?_, ⟨g5, ?_, k6.1, k6.2⟩, ?_⟩, ?_⟩
            · simp only [go_sem, Nat.reduceEqDiff, Nat.reduceAdd, Nat.reduceLeDiff, v8]
            · simp only [go_sem, Nat.reduceEqDiff, Nat.reduceAdd, Nat.reduceLeDiff, v9]
            · simp only [go_sem, Nat.reduceEqDiff, Nat.reduceAdd, Nat.reduceLeDiff, v10]
            · simp only [go_sem, Nat.reduceEqDiff, Nat.reduceAdd, Nat.reduceLeDiff, v4]
            · simp only [go_sem, Nat.reduceEqDiff, Nat.reduceAdd, Nat.reduceLeDiff, v5]
            · simp only [go_sem, Nat.reduceEqDiff, Nat.reduceAdd, Nat.reduceLeDiff]
              rw [esc_succ hu, ← List.append_assoc, ← List.append_assoc, bp_app]
              exact hg2.one (by decide)
            · simp only [go_sem, Nat.reduceEqDiff, Nat.reduceAdd, Nat.reduceLeDiff]
        · have hd : decide ((k : Int) < (m.2.size : Int)) = false := decide_eq_false (by omega)
          have h0 : m.2.data.toList.length = m.2.size := by simp
          have hkn : m.2.data.toList.take k = m.2.data.toList := List.take_of_length_le (by omega)
          rw [hkn] at hV hel
          obtain ⟨v8, v9, v10, v4, ⟨g5, v5, vm, vc⟩, vg⟩ := hV
          (repeat' first
    | refine w_seq ?_
    | refine w_rg ?_
    | refine wo_nil ?_
    | refine s_plain (by simp only [go_sem, Nat.reduceEqDiff, Nat.reduceAdd, Nat.reduceLeDiff, v5, vm, v6, hd, fillE, List.replicate_succ, List.replicate_zero, List.set_cons_zero, List.set_cons_succ]; first | done | rfl) ?_
    | refine s_void (by simp only [go_sem, Nat.reduceEqDiff, Nat.reduceAdd, Nat.reduceLeDiff, v5, vm, v6, hd, fillE, List.replicate_succ, List.replicate_zero, List.set_cons_zero, List.set_cons_succ]; first | done | rfl) ?_
    | refine s_guard (by simp only [go_sem, Nat.reduceEqDiff, Nat.reduceAdd, Nat.reduceLeDiff, v5, vm, v6, hd, fillE, List.replicate_succ, List.replicate_zero, List.set_cons_zero, List.set_cons_succ]; first | done | rfl) ?_
    | refine g_skU ?_
    | refine g_T (by intro hb; simp only [go_sem, Nat.reduceEqDiff, Nat.reduceAdd, Nat.reduceLeDiff, v5, vm, v6, hd, fillE, List.replicate_succ, List.replicate_zero, List.set_cons_zero, List.set_cons_succ, hb]; first | done | rfl) ?_
    | refine g_F (by intro hb; simp only [go_sem, Nat.reduceEqDiff, Nat.reduceAdd, Nat.reduceLeDiff, v5, vm, v6, hd, fillE, List.replicate_succ, List.replicate_zero, List.set_cons_zero, List.set_cons_succ, hb]; first | done | rfl) ?_
    | refine g_gT (by intro hb hc; simp only [go_sem, Nat.reduceEqDiff, Nat.reduceAdd, Nat.reduceLeDiff, v5, vm, v6, hd, fillE, List.replicate_succ, List.replicate_zero, List.set_cons_zero, List.set_cons_succ, hb, hc]; first | done | rfl) ?_
    | refine g_gF (by intro hb hc; simp only [go_sem, Nat.reduceEqDiff, Nat.reduceAdd, Nat.reduceLeDiff, v5, vm, v6, hd, fillE, List.replicate_succ, List.replicate_zero, List.set_cons_zero, List.set_cons_succ, hb, hc]; first | done | rfl) ?_
    | refine g_skT ?_
    | refine g_skF ?_
    | refine g_goT (by simp only [go_sem, Nat.reduceEqDiff, Nat.reduceAdd, Nat.reduceLeDiff, v5, vm, v6, hd, fillE, List.replicate_succ, List.replicate_zero, List.set_cons_zero, List.set_cons_succ]; first | done | rfl) ?_
    | refine g_goF (by simp only [go_sem, Nat.reduceEqDiff, Nat.reduceAdd, Nat.reduceLeDiff, v5, vm, v6, hd, fillE, List.replicate_succ, List.replicate_zero, List.set_cons_zero, List.set_cons_succ]; first | done | rfl) ?_
    | refine w_condT (by simp only [go_sem, Nat.reduceEqDiff, Nat.reduceAdd, Nat.reduceLeDiff, v5, vm, v6, hd, fillE, List.replicate_succ, List.replicate_zero, List.set_cons_zero, List.set_cons_succ]; first | done | rfl) ?_
    | refine w_condF (by simp only [go_sem, Nat.reduceEqDiff, Nat.reduceAdd, Nat.reduceLeDiff, v5, vm, v6, hd, fillE, List.replicate_succ, List.replicate_zero, List.set_cons_zero, List.set_cons_succ]; first | done | rfl) ?_
    | refine w_skip ?_
    | refine w_exit ?_
    | refine w_ret ?_
    )
          try simp only [if_true]
          (repeat' first
    | refine w_seq ?_
    | refine w_rg ?_
    | refine wo_nil ?_
    | refine s_plain (by simp only [go_sem, Nat.reduceEqDiff, Nat.reduceAdd, Nat.reduceLeDiff, fillE, List.replicate_succ, List.replicate_zero, List.set_cons_zero, List.set_cons_succ]; first | done | rfl) ?_
    | refine s_void (by simp only [go_sem, Nat.reduceEqDiff, Nat.reduceAdd, Nat.reduceLeDiff, fillE, List.replicate_succ, List.replicate_zero, List.set_cons_zero, List.set_cons_succ]; first | done | rfl) ?_
    | refine s_guard (by simp only [go_sem, Nat.reduceEqDiff, Nat.reduceAdd, Nat.reduceLeDiff, fillE, List.replicate_succ, List.replicate_zero, List.set_cons_zero, List.set_cons_succ]; first | done | rfl) ?_
    | refine g_skU ?_
    | refine g_T (by intro hb; simp only [go_sem, Nat.reduceEqDiff, Nat.reduceAdd, Nat.reduceLeDiff, fillE, List.replicate_succ, List.replicate_zero, List.set_cons_zero, List.set_cons_succ, hb]; first | done | rfl) ?_
    | refine g_F (by intro hb; simp only [go_sem, Nat.reduceEqDiff, Nat.reduceAdd, Nat.reduceLeDiff, fillE, List.replicate_succ, List.replicate_zero, List.set_cons_zero, List.set_cons_succ, hb]; first | done | rfl) ?_
    | refine g_gT (by intro hb hc; simp only [go_sem, Nat.reduceEqDiff, Nat.reduceAdd, Nat.reduceLeDiff, fillE, List.replicate_succ, List.replicate_zero, List.set_cons_zero, List.set_cons_succ, hb, hc]; first | done | rfl) ?_
    | refine g_gF (by intro hb hc; simp only [go_sem, Nat.reduceEqDiff, Nat.reduceAdd, Nat.reduceLeDiff, fillE, List.replicate_succ, List.replicate_zero, List.set_cons_zero, List.set_cons_succ, hb, hc]; first | done | rfl) ?_
    | refine g_skT ?_
    | refine g_skF ?_
    | refine g_goT (by simp only [go_sem, Nat.reduceEqDiff, Nat.reduceAdd, Nat.reduceLeDiff, fillE, List.replicate_succ, List.replicate_zero, List.set_cons_zero, List.set_cons_succ]; first | done | rfl) ?_
    | refine g_goF (by simp only [go_sem, Nat.reduceEqDiff, Nat.reduceAdd, Nat.reduceLeDiff, fillE, List.replicate_succ, List.replicate_zero, List.set_cons_zero, List.set_cons_succ]; first | done | rfl) ?_
    )
          refine s_gatL (os := OS) (ys := [.sc (.int .u8 34)]) (by simp only [go_sem, Nat.reduceEqDiff, Nat.reduceAdd, Nat.reduceLeDiff]; exact vg.new _) (by simp only [go_sem, Nat.reduceEqDiff, Nat.reduceAdd, Nat.reduceLeDiff, srcOf, elemsOf]) rfl (by rw [bp_len]; simp only [List.length_append, List.length_cons, List.length_nil]; omega) ?_
          intro p τ' hg2 kp
          (repeat' first
    | refine w_seq ?_
    | refine w_rg ?_
    | refine wo_nil ?_
    | refine s_plain (by simp only [go_sem, Nat.reduceEqDiff, Nat.reduceAdd, Nat.reduceLeDiff]; first | done | rfl) ?_
    | refine s_void (by simp only [go_sem, Nat.reduceEqDiff, Nat.reduceAdd, Nat.reduceLeDiff]; first | done | rfl) ?_
    | refine s_guard (by simp only [go_sem, Nat.reduceEqDiff, Nat.reduceAdd, Nat.reduceLeDiff]; first | done | rfl) ?_
    | refine g_skU ?_
    | refine g_T (by intro hb; simp only [go_sem, Nat.reduceEqDiff, Nat.reduceAdd, Nat.reduceLeDiff, hb]; first | done | rfl) ?_
    | refine g_F (by intro hb; simp only [go_sem, Nat.reduceEqDiff, Nat.reduceAdd, Nat.reduceLeDiff, hb]; first | done | rfl) ?_
    | refine g_gT (by intro hb hc; simp only [go_sem, Nat.reduceEqDiff, Nat.reduceAdd, Nat.reduceLeDiff, hb, hc]; first | done | rfl) ?_
    | refine g_gF (by intro hb hc; simp only [go_sem, Nat.reduceEqDiff, Nat.reduceAdd, Nat.reduceLeDiff, hb, hc]; first | done | rfl) ?_
    | refine g_skT ?_
    | refine g_skF ?_
    | refine g_goT (by simp only [go_sem, Nat.reduceEqDiff, Nat.reduceAdd, Nat.reduceLeDiff]; first | done | rfl) ?_
    | refine g_goF (by simp only [go_sem, Nat.reduceEqDiff, Nat.reduceAdd, Nat.reduceLeDiff]; first | done | rfl) ?_
    )
          refine ⟨⟨?_, ?_⟩, ?_, ?_⟩
          · simp only [go_sem, Nat.reduceEqDiff, Nat.reduceAdd, Nat.reduceLeDiff, v8]
          · simp only [go_sem, Nat.reduceEqDiff, Nat.reduceAdd, Nat.reduceLeDiff]
            rw [hsuc', bp_app]
            exact hg2.one (by decide)
          · simp only [go_sem, Nat.reduceEqDiff, Nat.reduceAdd, Nat.reduceLeDiff, v10]
          · simp only [go_sem, Nat.reduceEqDiff, Nat.reduceAdd, Nat.reduceLeDiff, v9]
      · refine ⟨⟨?_, ?_, ?_, ?_, ⟨g5, ?_, m2.1, m2.2⟩, ?_⟩, ?_⟩
        · simp only [go_sem, Nat.reduceEqDiff, Nat.reduceAdd, Nat.reduceLeDiff, w8]
        · simp only [go_sem, Nat.reduceEqDiff, Nat.reduceAdd, Nat.reduceLeDiff, w9]
        · simp only [go_sem, Nat.reduceEqDiff, Nat.reduceAdd, Nat.reduceLeDiff, w10]
        · simp only [go_sem, Nat.reduceEqDiff, Nat.reduceAdd, Nat.reduceLeDiff, w4]
        · simp only [go_sem, Nat.reduceEqDiff, Nat.reduceAdd, Nat.reduceLeDiff, w5]
        · simp only [go_sem, Nat.reduceEqDiff, Nat.reduceAdd, Nat.reduceLeDiff]
          have : esc [] = [] := rfl
          rw [this, List.append_nil]
          exact q2'
        · simp only [go_sem, Nat.reduceEqDiff, Nat.reduceAdd, Nat.reduceLeDiff]; rfl
  · rintro fr σ ⟨f8, hg⟩
    try simp only [if_true]
    have hp0 := hpl l.length
    (repeat' first
    | refine w_seq ?_
    | refine w_rg ?_
    | refine wo_nil ?_
    | refine s_plain (by simp only [go_sem, Nat.reduceEqDiff, Nat.reduceAdd, Nat.reduceLeDiff, fillE, List.replicate_succ, List.replicate_zero, List.set_cons_zero, List.set_cons_succ]; first | done | rfl) ?_
    | refine s_void (by simp only [go_sem, Nat.reduceEqDiff, Nat.reduceAdd, Nat.reduceLeDiff, fillE, List.replicate_succ, List.replicate_zero, List.set_cons_zero, List.set_cons_succ]; first | done | rfl) ?_
    | refine s_guard (by simp only [go_sem, Nat.reduceEqDiff, Nat.reduceAdd, Nat.reduceLeDiff, fillE, List.replicate_succ, List.replicate_zero, List.set_cons_zero, List.set_cons_succ]; first | done | rfl) ?_
    | refine g_skU ?_
    | refine g_T (by intro hb; simp only [go_sem, Nat.reduceEqDiff, Nat.reduceAdd, Nat.reduceLeDiff, fillE, List.replicate_succ, List.replicate_zero, List.set_cons_zero, List.set_cons_succ, hb]; first | done | rfl) ?_
    | refine g_F (by intro hb; simp only [go_sem, Nat.reduceEqDiff, Nat.reduceAdd, Nat.reduceLeDiff, fillE, List.replicate_succ, List.replicate_zero, List.set_cons_zero, List.set_cons_succ, hb]; first | done | rfl) ?_
    | refine g_gT (by intro hb hc; simp only [go_sem, Nat.reduceEqDiff, Nat.reduceAdd, Nat.reduceLeDiff, fillE, List.replicate_succ, List.replicate_zero, List.set_cons_zero, List.set_cons_succ, hb, hc]; first | done | rfl) ?_
    | refine g_gF (by intro hb hc; simp only [go_sem, Nat.reduceEqDiff, Nat.reduceAdd, Nat.reduceLeDiff, fillE, List.replicate_succ, List.replicate_zero, List.set_cons_zero, List.set_cons_succ, hb, hc]; first | done | rfl) ?_
    | refine g_skT ?_
    | refine g_skF ?_
    | refine g_goT (by simp only [go_sem, Nat.reduceEqDiff, Nat.reduceAdd, Nat.reduceLeDiff, fillE, List.replicate_succ, List.replicate_zero, List.set_cons_zero, List.set_cons_succ]; first | done | rfl) ?_
    | refine g_goF (by simp only [go_sem, Nat.reduceEqDiff, Nat.reduceAdd, Nat.reduceLeDiff, fillE, List.replicate_succ, List.replicate_zero, List.set_cons_zero, List.set_cons_succ]; first | done | rfl) ?_
    )
    refine s_gatL (os := OS) (ys := [.sc (.int .u8 125)]) (by simp only [go_sem, Nat.reduceEqDiff, Nat.reduceAdd, Nat.reduceLeDiff]; exact hg.new _) (by simp only [go_sem, Nat.reduceEqDiff, Nat.reduceAdd, Nat.reduceLeDiff, srcOf, elemsOf]) rfl (by rw [bp_len]; simp only [List.length_cons, List.length_nil]; omega) ?_
    intro p τ hg2 kp
    have hE := gat_elems hg2
    have hE2 : elemsOf τ p = some (bp (preT l l.length ++ [125])) := by rw [hE, bp_app]; rfl
    have hB := bp_back (preT l l.length ++ [125])
    have hT : (⟨(preT l l.length ++ [125]).toArray⟩ : ByteArray) = textS l := by
      refine Go.WideShapes.bytes_inj ?_
      simp [textS, bodyS, preT, ByteArray.data_append]
    (repeat' first
    | refine w_seq ?_
    | refine w_rg ?_
    | refine wo_nil ?_
    | refine s_plain (by simp only [go_sem, Nat.reduceEqDiff, Nat.reduceAdd, Nat.reduceLeDiff, hE2, hB, hT]; first | done | rfl) ?_
    | refine s_void (by simp only [go_sem, Nat.reduceEqDiff, Nat.reduceAdd, Nat.reduceLeDiff, hE2, hB, hT]; first | done | rfl) ?_
    | refine s_guard (by simp only [go_sem, Nat.reduceEqDiff, Nat.reduceAdd, Nat.reduceLeDiff, hE2, hB, hT]; first | done | rfl) ?_
    | refine g_skU ?_
    | refine g_T (by intro hb; simp only [go_sem, Nat.reduceEqDiff, Nat.reduceAdd, Nat.reduceLeDiff, hE2, hB, hT, hb]; first | done | rfl) ?_
    | refine g_F (by intro hb; simp only [go_sem, Nat.reduceEqDiff, Nat.reduceAdd, Nat.reduceLeDiff, hE2, hB, hT, hb]; first | done | rfl) ?_
    | refine g_gT (by intro hb hc; simp only [go_sem, Nat.reduceEqDiff, Nat.reduceAdd, Nat.reduceLeDiff, hE2, hB, hT, hb, hc]; first | done | rfl) ?_
    | refine g_gF (by intro hb hc; simp only [go_sem, Nat.reduceEqDiff, Nat.reduceAdd, Nat.reduceLeDiff, hE2, hB, hT, hb, hc]; first | done | rfl) ?_
    | refine g_skT ?_
    | refine g_skF ?_
    | refine g_goT (by simp only [go_sem, Nat.reduceEqDiff, Nat.reduceAdd, Nat.reduceLeDiff, hE2, hB, hT]; first | done | rfl) ?_
    | refine g_goF (by simp only [go_sem, Nat.reduceEqDiff, Nat.reduceAdd, Nat.reduceLeDiff, hE2, hB, hT]; first | done | rfl) ?_
    | refine w_condT (by simp only [go_sem, Nat.reduceEqDiff, Nat.reduceAdd, Nat.reduceLeDiff, hE2, hB, hT]; first | done | rfl) ?_
    | refine w_condF (by simp only [go_sem, Nat.reduceEqDiff, Nat.reduceAdd, Nat.reduceLeDiff, hE2, hB, hT]; first | done | rfl) ?_
    | refine w_skip ?_
    | refine w_exit ?_
    | refine w_ret ?_
    )
    exact ⟨.inr rfl, by simp only [go_sem, Nat.reduceEqDiff, Nat.reduceAdd, Nat.reduceLeDiff, retOf, resOf]; first | done | rfl⟩
  · refine ⟨by simp only [go_sem, Nat.reduceEqDiff, Nat.reduceAdd, Nat.reduceLeDiff], ?_⟩
    simp only [go_sem, Nat.reduceEqDiff, Nat.reduceAdd, Nat.reduceLeDiff]
    exact .inr ⟨7, 0, true, by decide, rfl, by simp only [go_sem, Nat.reduceEqDiff, Nat.reduceAdd, Nat.reduceLeDiff]; first | done | rfl, by simp only [go_sem, Nat.reduceEqDiff, Nat.reduceAdd, Nat.reduceLeDiff]; first | done | omega, by simp [bp, preT], fun h => by cases h⟩
  · simp only [go_sem, Nat.reduceEqDiff, Nat.reduceAdd, Nat.reduceLeDiff]
  · simp only [go_sem, Nat.reduceEqDiff, Nat.reduceAdd, Nat.reduceLeDiff, hll]

end
end Go.Proofs.YtjijlmfhnkipmaaDoorPv
