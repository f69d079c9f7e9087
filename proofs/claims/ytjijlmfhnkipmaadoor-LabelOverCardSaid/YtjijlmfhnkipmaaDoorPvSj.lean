/-
A rule that is cut.
-/
import Derived.Test.YtjijlmfhnkipmaaDoorPvSi
namespace Go.Proofs.YtjijlmfhnkipmaaDoorPv
open Go
set_option linter.unusedSimpArgs false
set_option linter.unusedVariables false
set_option maxHeartbeats 4000000
attribute [local go_sem ↓] e_mv e_pick e_bin e_eqs e_beq e_un e_cvi e_str e_s2b e_b2s e_box e_build e_bsl e_ld e_st e_nck e_mkf e_slcS e_slcL e_fa e_fld e_ia e_iaa e_ix e_ixa e_ext e_lenS e_lenL e_mnmx e_app e_msl e_clr e_call e_callv pa_t pa_c pa_f slcSP_str hiOf_some hiOf_none loOf_some loOf_none set_eq set_ne
attribute [local go_sem] pv pv1 simple frOf_0 frOf_1 frOf_2 frOf_3 frOf_4 frOf_5 ne_eq not_false_eq_true if_true Bool.false_eq_true if_false pbin punary Option.map_some Option.bind_some pick_and pick_or opt_true Bool.true_and Bool.and_self Bool.and_true Bool.true_or Bool.false_or Bool.not_true Bool.not_false callE pcall_eq List.map_cons List.map_nil List.append_nil List.nil_append List.cons_append mapM_cons' mapM_nil' dep_eq fz_sc fz_sl fz_em fz_fn fz_fp fz_agg fz_bx fz_ob Nat.lt_irrefl Nat.zero_lt_one Nat.lt_add_one flat clL cl Bool.or_true okc cells_agg cells_sc cells_sl cells_em cells_ob cells_fn cells_bx cells_fp List.length_cons List.length_nil Nat.zero_add and_self true_and and_true new_m new_c put_m put_c nil_m nil_c deref List.getElem?_cons_zero List.getElem?_cons_succ List.drop_zero List.drop_succ_cons List.take_succ_cons List.take_zero Nat.le_refl false_and and_false
set_option maxRecDepth 8000

section
variable {env : Nat → Option Def} {fr : Fr} {σ : St} {K : Fr → St → Prop}

def cutR (r : Rule) : Rule := { r with name := cutS 70 r.name, metric := cutS 70 r.metric, labels := fewL r.labels }

theorem a104 (J : Has li env) {r : Rule} (hn : r.labels.length ≤ 9223372036854775807) : AV env 104 [rule r] = some (rule (cutR r)) := by
  have h108 := a108 J hn
  have b70 : ∀ (n : Nat) (k : IntKind), bound n (.sc (.int k (min (n : Int) 70))) = some (min n 70) := fun n k => bound_min rfl
  refine AV_wp (J (104, d104) (by simp [li])) rfl ?_
  unfold rule
  (repeat' first
    | refine w_seq ?_
    | refine w_rg ?_
    | refine wo_nil ?_
    | refine s_plain (by simp only [go_sem, Nat.reduceEqDiff, Nat.reduceAdd, Nat.reduceLeDiff, h108, mn2, b70, splice, List.modify_zero_cons, List.take_succ_cons, List.drop_succ_cons]; first | done | rfl) ?_
    | refine s_void (by simp only [go_sem, Nat.reduceEqDiff, Nat.reduceAdd, Nat.reduceLeDiff, h108, mn2, b70, splice, List.modify_zero_cons, List.take_succ_cons, List.drop_succ_cons]; first | done | rfl) ?_
    | refine s_guard (by simp only [go_sem, Nat.reduceEqDiff, Nat.reduceAdd, Nat.reduceLeDiff, h108, mn2, b70, splice, List.modify_zero_cons, List.take_succ_cons, List.drop_succ_cons]; first | done | rfl) ?_
    | refine g_skU ?_
    | refine g_T (by intro hb; simp only [go_sem, Nat.reduceEqDiff, Nat.reduceAdd, Nat.reduceLeDiff, h108, mn2, b70, splice, List.modify_zero_cons, List.take_succ_cons, List.drop_succ_cons, hb]; first | done | rfl) ?_
    | refine g_F (by intro hb; simp only [go_sem, Nat.reduceEqDiff, Nat.reduceAdd, Nat.reduceLeDiff, h108, mn2, b70, splice, List.modify_zero_cons, List.take_succ_cons, List.drop_succ_cons, hb]; first | done | rfl) ?_
    | refine g_gT (by intro hb hc; simp only [go_sem, Nat.reduceEqDiff, Nat.reduceAdd, Nat.reduceLeDiff, h108, mn2, b70, splice, List.modify_zero_cons, List.take_succ_cons, List.drop_succ_cons, hb, hc]; first | done | rfl) ?_
    | refine g_gF (by intro hb hc; simp only [go_sem, Nat.reduceEqDiff, Nat.reduceAdd, Nat.reduceLeDiff, h108, mn2, b70, splice, List.modify_zero_cons, List.take_succ_cons, List.drop_succ_cons, hb, hc]; first | done | rfl) ?_
    | refine g_skT ?_
    | refine g_skF ?_
    | refine g_goT (by simp only [go_sem, Nat.reduceEqDiff, Nat.reduceAdd, Nat.reduceLeDiff, h108, mn2, b70, splice, List.modify_zero_cons, List.take_succ_cons, List.drop_succ_cons]; first | done | rfl) ?_
    | refine g_goF (by simp only [go_sem, Nat.reduceEqDiff, Nat.reduceAdd, Nat.reduceLeDiff, h108, mn2, b70, splice, List.modify_zero_cons, List.take_succ_cons, List.drop_succ_cons]; first | done | rfl) ?_
    | refine w_condT (by simp only [go_sem, Nat.reduceEqDiff, Nat.reduceAdd, Nat.reduceLeDiff, h108, mn2, b70, splice, List.modify_zero_cons, List.take_succ_cons, List.drop_succ_cons]; first | done | rfl) ?_
    | refine w_condF (by simp only [go_sem, Nat.reduceEqDiff, Nat.reduceAdd, Nat.reduceLeDiff, h108, mn2, b70, splice, List.modify_zero_cons, List.take_succ_cons, List.drop_succ_cons]; first | done | rfl) ?_
    | refine w_skip ?_
    | refine w_exit ?_
    | refine w_ret ?_
    )
  refine ⟨.inr rfl, ?_⟩
  simp only [go_sem, Nat.reduceEqDiff, Nat.reduceAdd, Nat.reduceLeDiff, retOf, resOf, List.modify_zero_cons]
  rfl

theorem cutS_small (s : ByteArray) : Small (cutS 70 s) := by
  unfold Small cutS
  rw [ByteArray.size_extract]
  omega

theorem fewL_smalls (l : List Lab) : Smalls (fewL l) := by
  intro m hm
  simp only [fewL, List.mem_map] at hm
  obtain ⟨x, _, rfl⟩ := hm
  exact ⟨cutS_small _, cutS_small _⟩

theorem cutR_fits (r : Rule) : (cutR r).Fits := ⟨cutS_small _, cutS_small _, by simp only [cutR, fewL_len]; omega, fewL_smalls _⟩

end
end Go.Proofs.YtjijlmfhnkipmaaDoorPv
