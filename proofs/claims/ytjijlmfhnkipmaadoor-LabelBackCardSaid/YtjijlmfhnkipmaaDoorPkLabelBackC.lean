/-
Own texts of the proof, merged: part 3.
-/
import Derived.Test.YtjijlmfhnkipmaaDoorPkLabelBackB
import Derived.WideAt
namespace Go.Proofs.YtjijlmfhnkipmaaDoorPv
open Go
set_option linter.unusedSimpArgs false
set_option linter.unusedVariables false
set_option maxHeartbeats 4000000
attribute [local go_sem ↓] e_mv e_pick e_bin e_eqs e_beq e_un e_cvi e_str e_s2b e_b2s e_box e_build e_bsl e_ld e_st e_nck e_mkf e_slcS e_slcL e_fa e_fld e_ia e_iaa e_ix e_ixa e_ext e_lenS e_lenL e_mnmx e_app e_appb e_bbx e_msl e_clr e_call e_callv pa_t pa_c pa_f slcSP_str hiOf_some hiOf_none loOf_some loOf_none set_eq set_ne
attribute [local go_sem] pv pv1 simple frOf_0 frOf_1 frOf_2 frOf_3 frOf_4 frOf_5 ne_eq not_false_eq_true if_true Bool.false_eq_true if_false pbin punary Option.map_some Option.bind_some pick_and pick_or opt_true Bool.true_and Bool.and_self Bool.and_true Bool.true_or Bool.false_or Bool.not_true Bool.not_false callE pcall_eq List.map_cons List.map_nil List.append_nil List.nil_append List.cons_append mapM_cons' mapM_nil' dep_eq fz_sc fz_sl fz_em fz_fn fz_fp fz_agg fz_tu fz_bx fz_ob Nat.lt_irrefl Nat.zero_lt_one Nat.lt_add_one flat clL cl Bool.or_true okc_sc okc_em okc_sl okc_ob okc_bx okc_fp okc_fn okc_agg okc_ifc cells_agg cells_sc cells_sl cells_em cells_ob cells_fn cells_bx cells_fp List.length_cons List.length_nil Nat.zero_add and_self true_and and_true new_m new_c put_m put_c nil_m nil_c deref List.getElem?_cons_zero List.getElem?_cons_succ List.drop_zero List.drop_succ_cons List.take_succ_cons List.take_zero Nat.le_refl false_and and_false decide_true decide_false lenP_em lenP_nil lenP_sl lenP_ob Int.ofNat_zero
set_option maxRecDepth 8000
/-- transhipment/transhipmentref03.Get -/
def d200 : Def := (.code 2 [.tmp 4] (.seq (.rg false [⟨.some 4, .none, .mv (.c (.string ⟨#[]⟩))⟩]) (.seq (.seq (.rg false [⟨.some 7, .none, .mv (.t 0)⟩, ⟨.some 8, .none, .lenL (.t 7)⟩, ⟨.some 9, .none, .mv (.c (.int .i64 0))⟩]) (.block 0 (.loop (.seq (.rg false [⟨.some 10, .none, .bin .lss (.t 9) (.t 8)⟩]) (.seq (.cond (.t 10) .skip (.exit 0)) (.seq (.block 1 (.seq (.rg false [⟨.some 11, .none, .ia 2 (.t 7) (.t 9)⟩, ⟨.some 12, .none, .ld (.some 2) (.t 11)⟩, ⟨.some 6, .none, .box (.c (.agg #[.string ⟨#[]⟩, .string ⟨#[]⟩]))⟩, ⟨.none, .none, .st 2 (.t 6) (.t 12)⟩]) (.seq (.rg false [⟨.some 13, .none, .fa 0 (.t 6)⟩, ⟨.some 14, .none, .ld .none (.t 13)⟩, ⟨.some 15, .none, .mv (.t 1)⟩, ⟨.some 16, .none, .bin .eql (.t 14) (.t 15)⟩]) (.cond (.t 16) (.seq (.rg false [⟨.some 17, .none, .fa 1 (.t 6)⟩, ⟨.some 18, .none, .ld .none (.t 17)⟩, ⟨.some 4, .none, .mv (.t 18)⟩]) .ret) .skip)))) (.rg false [⟨.some 19, .none, .bin .add (.t 9) (.c (.int .i64 1))⟩, ⟨.some 9, .none, .mv (.t 19)⟩]))))))) (.seq (.rg false [⟨.some 4, .none, .mv (.c (.string ⟨#[]⟩))⟩]) .ret))))
/-- transhipment/transhipmentref03.Sorted -/
def d201 : Def := (.code 1 [.tmp 2] (.seq (.rg false [⟨.some 2, .none, .mv (.c (.slice .none 0 0))⟩]) (.seq (.rg false [⟨.some 8, .none, .mv (.c (.slice .none 0 0))⟩, ⟨.some 3, .none, .mv (.t 8)⟩]) (.seq (.seq (.rg false [⟨.some 9, .none, .mv (.t 0)⟩, ⟨.some 10, .none, .lenL (.t 9)⟩, ⟨.some 11, .none, .mv (.c (.int .i64 0))⟩]) (.block 0 (.loop (.seq (.rg false [⟨.some 12, .none, .bin .lss (.t 11) (.t 10)⟩]) (.seq (.cond (.t 12) .skip (.exit 0)) (.seq (.block 1 (.seq (.rg false [⟨.some 13, .none, .ia 2 (.t 9) (.t 11)⟩, ⟨.some 14, .none, .ld (.some 2) (.t 13)⟩, ⟨.some 5, .none, .box (.c (.agg #[.string ⟨#[]⟩, .string ⟨#[]⟩]))⟩, ⟨.none, .none, .st 2 (.t 5) (.t 14)⟩]) (.seq (.rg false [⟨.some 15, .none, .mv (.t 3)⟩, ⟨.some 16, .none, .lenL (.t 15)⟩, ⟨.some 6, .none, .mv (.t 16)⟩]) (.seq (.block 2 (.loop (.seq (.seq (.rg true [⟨.some 17, .none, .mv (.t 6)⟩, ⟨.some 18, .none, .bin .gtr (.t 17) (.c (.int .i64 0))⟩, ⟨.some 19, .none, .mv (.t 18)⟩, ⟨.some 20, .some (19, true), .fa 0 (.t 5)⟩, ⟨.some 21, .some (19, true), .ld .none (.t 20)⟩, ⟨.some 22, .some (19, true), .mv (.t 3)⟩, ⟨.some 23, .some (19, true), .mv (.t 6)⟩, ⟨.some 24, .some (19, true), .bin .sub (.t 23) (.c (.int .i64 1))⟩, ⟨.some 25, .some (19, true), .ia 2 (.t 22) (.t 24)⟩, ⟨.some 26, .some (19, true), .fa 0 (.t 25)⟩, ⟨.some 27, .some (19, true), .ld .none (.t 26)⟩, ⟨.some 28, .some (19, true), .call 119 .strict [.t 21, .t 27]⟩, ⟨.some 29, .none, .pick (.t 19) (.t 28) (.c (.bool false))⟩]) (.cond (.t 29) .skip (.exit 2))) (.block 3 (.rg false [⟨.some 30, .none, .mv (.t 6)⟩, ⟨.some 31, .none, .bin .sub (.t 30) (.c (.int .i64 1))⟩, ⟨.some 6, .none, .mv (.t 31)⟩]))))) (.seq (.rg false [⟨.some 32, .none, .mv (.c (.slice .none 0 0))⟩, ⟨.some 7, .none, .mv (.t 32)⟩]) (.seq (.rg false [⟨.some 33, .none, .mv (.t 7)⟩, ⟨.some 34, .none, .mv (.t 3)⟩, ⟨.some 35, .none, .mv (.t 6)⟩, ⟨.some 36, .none, .slcL 2 (.t 34) .none (.some (.t 35))⟩, ⟨.some 37, .none, .app 2 32 false (.t 33) (.t 36)⟩, ⟨.some 7, .none, .mv (.t 37)⟩]) (.seq (.rg false [⟨.some 38, .none, .mv (.t 7)⟩, ⟨.some 39, .none, .ld (.some 2) (.t 5)⟩, ⟨.some 40, .none, .bsl 2 (.agg #[.string ⟨#[]⟩, .string ⟨#[]⟩]) 1 [(0, .t 39)]⟩, ⟨.some 41, .none, .app 2 32 false (.t 38) (.t 40)⟩, ⟨.some 7, .none, .mv (.t 41)⟩]) (.seq (.rg false [⟨.some 42, .none, .mv (.t 7)⟩, ⟨.some 43, .none, .mv (.t 3)⟩, ⟨.some 44, .none, .mv (.t 6)⟩, ⟨.some 45, .none, .slcL 2 (.t 43) (.some (.t 44)) .none⟩, ⟨.some 46, .none, .app 2 32 false (.t 42) (.t 45)⟩, ⟨.some 7, .none, .mv (.t 46)⟩]) (.rg false [⟨.some 47, .none, .mv (.t 7)⟩, ⟨.some 3, .none, .mv (.t 47)⟩]))))))))) (.rg false [⟨.some 48, .none, .bin .add (.t 11) (.c (.int .i64 1))⟩, ⟨.some 11, .none, .mv (.t 48)⟩]))))))) (.seq (.rg false [⟨.some 49, .none, .mv (.t 3)⟩, ⟨.some 2, .none, .mv (.t 49)⟩]) .ret)))))
/-- transhipment/transhipmentref03.With -/
def d191 : Def := (.code 2 [.tmp 4] (.seq (.rg false [⟨.some 4, .none, .mv (.c (.slice .none 0 0))⟩]) (.seq (.rg false [⟨.some 8, .none, .mv (.c (.slice .none 0 0))⟩, ⟨.some 5, .none, .mv (.t 8)⟩]) (.seq (.rg false [⟨.some 9, .none, .mv (.t 5)⟩, ⟨.some 10, .none, .mv (.t 1)⟩, ⟨.some 11, .none, .app 2 32 false (.t 9) (.t 10)⟩, ⟨.some 5, .none, .mv (.t 11)⟩]) (.seq (.seq (.rg false [⟨.some 12, .none, .mv (.t 0)⟩, ⟨.some 13, .none, .lenL (.t 12)⟩, ⟨.some 14, .none, .mv (.c (.int .i64 0))⟩]) (.block 0 (.loop (.seq (.rg false [⟨.some 15, .none, .bin .lss (.t 14) (.t 13)⟩]) (.seq (.cond (.t 15) .skip (.exit 0)) (.seq (.block 1 (.seq (.rg false [⟨.some 16, .none, .ia 2 (.t 12) (.t 14)⟩, ⟨.some 17, .none, .ld (.some 2) (.t 16)⟩, ⟨.some 7, .none, .box (.c (.agg #[.string ⟨#[]⟩, .string ⟨#[]⟩]))⟩, ⟨.none, .none, .st 2 (.t 7) (.t 17)⟩]) (.seq (.rg false [⟨.some 18, .none, .mv (.t 1)⟩, ⟨.some 19, .none, .fa 0 (.t 7)⟩, ⟨.some 20, .none, .ld .none (.t 19)⟩, ⟨.some 21, .none, .call 200 .pure [.t 18, .t 20]⟩, ⟨.some 22, .none, .bin .eql (.t 21) (.c (.string ⟨#[]⟩))⟩]) (.cond (.t 22) (.rg false [⟨.some 23, .none, .mv (.t 5)⟩, ⟨.some 24, .none, .ld (.some 2) (.t 7)⟩, ⟨.some 25, .none, .bsl 2 (.agg #[.string ⟨#[]⟩, .string ⟨#[]⟩]) 1 [(0, .t 24)]⟩, ⟨.some 26, .none, .app 2 32 false (.t 23) (.t 25)⟩, ⟨.some 5, .none, .mv (.t 26)⟩]) .skip)))) (.rg false [⟨.some 27, .none, .bin .add (.t 14) (.c (.int .i64 1))⟩, ⟨.some 14, .none, .mv (.t 27)⟩]))))))) (.seq (.rg false [⟨.some 28, .none, .mv (.t 5)⟩, ⟨.some 29, .none, .call 201 .pure [.t 28]⟩, ⟨.some 4, .none, .mv (.t 29)⟩]) .ret))))))
def lr : List (Nat × Def) := [(200, d200), (201, d201), (191, d191)]
section
variable {env : Nat → Option Def} {fr : Fr} {σ σ' : St} {K : Fr → St → Prop} {Q : X → Fr → St → Prop}
/-- What stays, but for what lies at some places. -/
structure Keeps (σ σ' : St) (os : List Nat) : Prop where
  c : ∀ o, σ.c o ≤ σ'.c o
  m : ∀ o g, o ∉ os → g < σ.c o → σ'.m o g = σ.m o g
theorem Gat.keep {os os2 : List Nat} {es : Nat} {w : Bool} {p : PV} {xs : List PV} (h : Gat σ os es w p xs) (hk : Keeps σ σ' os2) (hd : ∀ o ∈ os, o ∉ os2) : Gat σ' os es w p xs := by
  rcases h with h | ⟨o, g, wr, h0, h1, h2, h3, h4⟩
  · exact .inl h
  · exact .inr ⟨o, g, wr, h0, h1, by rw [hk.m o g (hd o h0) h3]; exact h2, Nat.lt_of_lt_of_le h3 (hk.c o), h4⟩
theorem gat_appL {E : Ev} {d es by_ : Nat} {os : List Nat} {w kw : Bool} {s' x : PA} {xs ys : List PV} (hg : Gat σ os es w (pa fr s') xs) (hsrc : srcOf σ es (pa fr x) = some ys) (hall : (ys.all fun y => okc y && (cellsOf y).length == es) = true) (hb : (xs.length + ys.length) * by_ ≤ 70368744177664) :
    ∃ p σ', evO E d fr σ (.app es by_ kw s' x) = some (p, σ') ∧ Gat σ' [d] es (w && kw) p (xs ++ ys) ∧ Keeps σ σ' os := by
  rcases hg with ⟨h1, rfl⟩ | ⟨o, g, wr, h0, h1, h2, h3, h4, h5⟩
  · cases ys with
    | nil =>
      refine ⟨.em, σ, ?_, .em, ⟨fun _ => Nat.le_refl _, fun _ _ _ _ => rfl⟩⟩
      simp only [evO, hsrc, Option.bind_some, hall, if_true, h1]
      simp
    | cons y r =>
      refine ⟨.ob d (σ.c d) es 0 (y :: r).length, σ.new d ⟨es, y :: r, true, true⟩, ?_, .inr ⟨d, σ.c d, true, by simp, by simp, by simp [new_m], by simp [new_c], by simp, fun _ => rfl⟩, ⟨fun o => ?_, fun o g _ hlt => ?_⟩⟩
      · simp only [evO, hsrc, Option.bind_some, hall, if_true, h1]
        rw [if_pos (by simpa using hb)]
        rfl
      · simp only [new_c]; split
        · rename_i h; subst h; omega
        · exact Nat.le_refl _
      · simp only [new_m]; rw [if_neg (fun h => by obtain ⟨rfl, rfl⟩ := h; omega)]
  · refine ⟨.ob d (σ.c d) es 0 (xs.length + ys.length), (σ.put o g (if kw then none else some ⟨es, xs, false, false⟩)).new d ⟨es, xs ++ ys, true, wr && kw⟩, ?_, .inr ⟨d, σ.c d, wr && kw, by simp, by simp, by simp [new_m, put_c], by simp [new_c, put_c], by simp [h4], fun h => ?_⟩, ⟨fun o' => ?_, fun o' g' ho hlt => ?_⟩⟩
    · simp only [evO, hsrc, Option.bind_some, hall, if_true, h1, h2]
      simp
      simpa using hb
    · simp only [Bool.and_eq_true] at h ⊢
      exact ⟨h5 h.1, h.2⟩
    · simp only [new_c, put_c]; split
      · rename_i h; subst h; omega
      · exact Nat.le_refl _
    · simp only [new_m, put_m, put_c]
      have n1 : ¬ (o' = d ∧ g' = σ.c d) := fun h => by obtain ⟨rfl, rfl⟩ := h; omega
      have n2 : ¬ (o' = o ∧ g' = g) := fun h => ho (h.1 ▸ h0)
      simp only [n1, n2, if_false]
theorem s_gatL {d t es by_ : Nat} {os : List Nat} {w kw : Bool} {x : PA} {xs ys : List PV} {ops : List POp} (hg : Gat σ os es w (fr t) xs) (hsrc : srcOf σ es (pa fr x) = some ys) (hall : (ys.all fun y => okc y && (cellsOf y).length == es) = true) (hb : (xs.length + ys.length) * by_ ≤ 70368744177664)
    (h2 : ∀ p σ', Gat σ' [d] es (w && kw) p (xs ++ ys) → Keeps σ σ' os → Wos env ops K (fr.set d p) σ') : Wos env (⟨some d, none, .app es by_ kw (.t t) x⟩ :: ops) K fr σ := by
  obtain ⟨p, σ', h3, h4, h5⟩ := gat_appL (E := EV env) (d := d) (fr := fr) (s' := .t t) (x := x) (kw := kw) hg hsrc hall hb
  exact s_plain h3 (h2 p σ' h4 h5)
theorem gat_slc {os : List Nat} {es h l : Nat} {w : Bool} {p : PV} {xs : List PV} {lo hi : Option PA} (hg : Gat σ os es w p xs) (hh : hiOf xs.length fr hi = some h) (hl : loOf h fr lo = some l) (hle : h ≤ xs.length) (hll : l ≤ h) :
    ∃ q, slcLP es fr p lo hi = some q ∧ elemsOf σ q = some ((xs.take h).drop l) := by
  rcases hg with ⟨rfl, rfl⟩ | ⟨o, g, wr, h0, rfl, h2, h3, h4, h5⟩
  · refine ⟨.em, ?_, by simp [elemsOf]⟩
    simp only [slcLP]
    rw [show hiOf 0 fr hi = some h from hh]
    simp [hl]
  · refine ⟨.ob o g es (0 + l) (h - l), ?_, ?_⟩
    · simp only [slcLP, if_true, hh, Option.bind_some, hl]
    · simp only [elemsOf, h2]
      rw [if_pos ⟨trivial, by omega⟩]
      rw [List.drop_take]
      simp
theorem gat_len {os : List Nat} {es : Nat} {w : Bool} {p : PV} {xs : List PV} {E : Ev} {d t : Nat} (hg : Gat σ os es w p xs) (ht : fr t = p) : evO E d fr σ (.lenL (.t t)) = some (.sc (.int .i64 xs.length), σ) := by
  rcases hg with ⟨rfl, rfl⟩ | ⟨o, g, wr, h0, rfl, h2, h3, h4, h5⟩
  · simp [evO, pa, ht]
  · simp [evO, pa, ht]
theorem labs_ok (l : List Lab) : ((labs l).all fun y => okc y && (cellsOf y).length == 2) = true := by
  rw [List.all_eq_true]
  intro x hx
  simp only [labs, List.mem_map] at hx
  obtain ⟨m, _, rfl⟩ := hx
  rfl
theorem a200 (R : Has lr env) {l : List Lab} {n : ByteArray} (hn : l.length ≤ 9223372036854775807) : AV env 200 [.sl (labs l), .sc (.string n)] = some (.sc (.string (getB l n))) := by
  refine AV_wp (R (200, d200) (by simp [lr])) rfl ?_
  have hll := labs_len l
  (repeat' first
    | refine w_seq ?_ | refine w_rg ?_ | refine wo_nil ?_ | refine g_skU ?_
    | ((first | apply s_plain | apply s_void | apply s_guard); · simp only [go_sem, Nat.reduceEqDiff, Nat.reduceAdd, Nat.reduceLeDiff, hll]; (first | done | rfl))
    | ((first | apply g_T | apply g_F); · intro hb; simp only [go_sem, Nat.reduceEqDiff, Nat.reduceAdd, Nat.reduceLeDiff, hll, hb]; (first | done | rfl))
    | ((first | apply g_gT | apply g_gF); · intro hb hc; simp only [go_sem, Nat.reduceEqDiff, Nat.reduceAdd, Nat.reduceLeDiff, hll, hb, hc]; (first | done | rfl))
    | refine g_skT ?_ | refine g_skF ?_
    | ((first | apply g_goT | apply g_goF); · simp only [go_sem, Nat.reduceEqDiff, Nat.reduceAdd, Nat.reduceLeDiff, hll]; (first | done | rfl))
    )
  refine w_block (w_range l.length hn (fun i fr σ => fr 1 = .sc (.string n) ∧ fr 7 = .sl (labs l) ∧ ∀ j, j < i → isN l n j = false) (by decide) ?_ ?_ ?_ _ _ ?_ ?_ ?_)
  · rintro i fr σ v ⟨h0, h1, h2⟩
    refine ⟨⟨?_, ?_, h2⟩, ⟨?_, ?_, h2⟩, ⟨?_, ?_, h2⟩⟩ <;> simp only [go_sem, Nat.reduceEqDiff, Nat.reduceAdd, Nat.reduceLeDiff, h0, h1]
  · rintro i fr σ hi ⟨f1, f7, h3⟩ hti htn
    have hx := List.getElem?_eq_getElem hi
    have hy := labs_at hx
    have hni : nth l i = l[i] := by unfold nth; rw [hx]; rfl
    have e1 : (0 : Int) ≤ (i : Int) ∧ (i : Int) < (l.length : Int) := by omega
    refine w_block ?_
    simp only [lab] at hy
    (repeat' first
    | refine w_seq ?_ | refine w_rg ?_ | refine wo_nil ?_ | refine g_skU ?_
    | ((first | apply s_plain | apply s_void | apply s_guard); · simp only [go_sem, Nat.reduceEqDiff, Nat.reduceAdd, Nat.reduceLeDiff, f1, f7, hti, e1, hll, Int.toNat_natCast, hy, List.modify_zero_cons]; (first | done | rfl))
    | ((first | apply g_T | apply g_F); · intro hb; simp only [go_sem, Nat.reduceEqDiff, Nat.reduceAdd, Nat.reduceLeDiff, f1, f7, hti, e1, hll, Int.toNat_natCast, hy, List.modify_zero_cons, hb]; (first | done | rfl))
    | ((first | apply g_gT | apply g_gF); · intro hb hc; simp only [go_sem, Nat.reduceEqDiff, Nat.reduceAdd, Nat.reduceLeDiff, f1, f7, hti, e1, hll, Int.toNat_natCast, hy, List.modify_zero_cons, hb, hc]; (first | done | rfl))
    | refine g_skT ?_ | refine g_skF ?_
    | ((first | apply g_goT | apply g_goF); · simp only [go_sem, Nat.reduceEqDiff, Nat.reduceAdd, Nat.reduceLeDiff, f1, f7, hti, e1, hll, Int.toNat_natCast, hy, List.modify_zero_cons]; (first | done | rfl))
    )
    have hbad : isN l n i = (l[i].1.toList == n.toList) := by unfold isN; rw [hni]
    cases hpi : isN l n i with
    | true =>
      have hq := hpi
      rw [hbad] at hpi
      refine w_condT (by simp only [go_sem, Nat.reduceEqDiff, Nat.reduceAdd, Nat.reduceLeDiff, hpi]) ?_
      (repeat' first
    | refine w_seq ?_ | refine w_rg ?_ | refine wo_nil ?_ | refine g_skU ?_
    | ((first | apply s_plain | apply s_void | apply s_guard); · simp only [go_sem, Nat.reduceEqDiff, Nat.reduceAdd, Nat.reduceLeDiff]; (first | done | rfl))
    | ((first | apply g_T | apply g_F); · intro hb; simp only [go_sem, Nat.reduceEqDiff, Nat.reduceAdd, Nat.reduceLeDiff, hb]; (first | done | rfl))
    | ((first | apply g_gT | apply g_gF); · intro hb hc; simp only [go_sem, Nat.reduceEqDiff, Nat.reduceAdd, Nat.reduceLeDiff, hb, hc]; (first | done | rfl))
    | refine g_skT ?_ | refine g_skF ?_
    | ((first | apply g_goT | apply g_goF); · simp only [go_sem, Nat.reduceEqDiff, Nat.reduceAdd, Nat.reduceLeDiff]; (first | done | rfl))
    | (refine w_condT ?_ ?_; · simp only [go_sem, Nat.reduceEqDiff, Nat.reduceAdd, Nat.reduceLeDiff]; (first | done | rfl))
    | (refine w_condF ?_ ?_; · simp only [go_sem, Nat.reduceEqDiff, Nat.reduceAdd, Nat.reduceLeDiff]; (first | done | rfl))
    | refine w_skip ?_ | refine w_exit ?_ | refine w_ret ?_
    )
      have hf : getB l n = l[i].2 := by
        unfold getB
        rw [found_hit hi h3 hq, if_neg (by omega)]
        simp only [Int.toNat_natCast, hni]
      exact ⟨.inr rfl, by simp only [go_sem, Nat.reduceEqDiff, Nat.reduceAdd, Nat.reduceLeDiff, retOf, resOf, hf]⟩
    | false =>
      have hq := hpi
      rw [hbad] at hpi
      refine w_condF (by simp only [go_sem, Nat.reduceEqDiff, Nat.reduceAdd, Nat.reduceLeDiff, hpi]) ?_
      (repeat' first
    | refine w_seq ?_ | refine w_rg ?_ | refine wo_nil ?_ | refine g_skU ?_
    | ((first | apply s_plain | apply s_void | apply s_guard); · simp only [go_sem, Nat.reduceEqDiff, Nat.reduceAdd, Nat.reduceLeDiff]; (first | done | rfl))
    | ((first | apply g_T | apply g_F); · intro hb; simp only [go_sem, Nat.reduceEqDiff, Nat.reduceAdd, Nat.reduceLeDiff, hb]; (first | done | rfl))
    | ((first | apply g_gT | apply g_gF); · intro hb hc; simp only [go_sem, Nat.reduceEqDiff, Nat.reduceAdd, Nat.reduceLeDiff, hb, hc]; (first | done | rfl))
    | refine g_skT ?_ | refine g_skF ?_
    | ((first | apply g_goT | apply g_goF); · simp only [go_sem, Nat.reduceEqDiff, Nat.reduceAdd, Nat.reduceLeDiff]; (first | done | rfl))
    | (refine w_condT ?_ ?_; · simp only [go_sem, Nat.reduceEqDiff, Nat.reduceAdd, Nat.reduceLeDiff]; (first | done | rfl))
    | (refine w_condF ?_ ?_; · simp only [go_sem, Nat.reduceEqDiff, Nat.reduceAdd, Nat.reduceLeDiff]; (first | done | rfl))
    | refine w_skip ?_ | refine w_exit ?_ | refine w_ret ?_
    )
      refine ⟨⟨?_, ?_, fun j hj => ?_⟩, ?_, ?_⟩
      · simp only [go_sem, Nat.reduceEqDiff, Nat.reduceAdd, Nat.reduceLeDiff, f1]
      · simp only [go_sem, Nat.reduceEqDiff, Nat.reduceAdd, Nat.reduceLeDiff, f7]
      · by_cases hji : j = i
        · rw [hji]; exact hq
        · exact h3 j (by omega)
      · simp only [go_sem, Nat.reduceEqDiff, Nat.reduceAdd, Nat.reduceLeDiff, hti]
      · simp only [go_sem, Nat.reduceEqDiff, Nat.reduceAdd, Nat.reduceLeDiff, htn]
  · rintro fr σ ⟨f1, f7, h3⟩
    try simp only [if_true]
    (repeat' first
    | refine w_seq ?_ | refine w_rg ?_ | refine wo_nil ?_ | refine g_skU ?_
    | ((first | apply s_plain | apply s_void | apply s_guard); · simp only [go_sem, Nat.reduceEqDiff, Nat.reduceAdd, Nat.reduceLeDiff]; (first | done | rfl))
    | ((first | apply g_T | apply g_F); · intro hb; simp only [go_sem, Nat.reduceEqDiff, Nat.reduceAdd, Nat.reduceLeDiff, hb]; (first | done | rfl))
    | ((first | apply g_gT | apply g_gF); · intro hb hc; simp only [go_sem, Nat.reduceEqDiff, Nat.reduceAdd, Nat.reduceLeDiff, hb, hc]; (first | done | rfl))
    | refine g_skT ?_ | refine g_skF ?_
    | ((first | apply g_goT | apply g_goF); · simp only [go_sem, Nat.reduceEqDiff, Nat.reduceAdd, Nat.reduceLeDiff]; (first | done | rfl))
    | (refine w_condT ?_ ?_; · simp only [go_sem, Nat.reduceEqDiff, Nat.reduceAdd, Nat.reduceLeDiff]; (first | done | rfl))
    | (refine w_condF ?_ ?_; · simp only [go_sem, Nat.reduceEqDiff, Nat.reduceAdd, Nat.reduceLeDiff]; (first | done | rfl))
    | refine w_skip ?_ | refine w_exit ?_ | refine w_ret ?_
    )
    have hf : getB l n = ⟨#[]⟩ := by unfold getB; rw [found_none h3]; rfl
    exact ⟨.inr rfl, by simp only [go_sem, Nat.reduceEqDiff, Nat.reduceAdd, Nat.reduceLeDiff, retOf, resOf, hf]⟩
  · refine ⟨?_, ?_, fun j hj => by omega⟩ <;> simp only [go_sem, Nat.reduceEqDiff, Nat.reduceAdd, Nat.reduceLeDiff]
  · simp only [go_sem, Nat.reduceEqDiff, Nat.reduceAdd, Nat.reduceLeDiff]
  · simp only [go_sem, Nat.reduceEqDiff, Nat.reduceAdd, Nat.reduceLeDiff, hll]
theorem s_slc {d t es h l : Nat} {os : List Nat} {w : Bool} {xs : List PV} {lo hi : Option PA} {ops : List POp} (hg : Gat σ os es w (fr t) xs) (hh : hiOf xs.length fr hi = some h) (hl : loOf h fr lo = some l) (hle : h ≤ xs.length) (hll : l ≤ h)
    (h2 : ∀ q, elemsOf σ q = some ((xs.take h).drop l) → Wos env ops K (fr.set d q) σ) : Wos env (⟨some d, none, .slcL es (.t t) lo hi⟩ :: ops) K fr σ := by
  obtain ⟨q, h3, h4⟩ := gat_slc hg hh hl hle hll
  exact s_plain (v := q) (σ' := σ) (by simp only [evO, pa, h3, Option.map_some]) (h2 q h4)
theorem bound_nat {n i : Nat} {k : IntKind} (h : i ≤ n) : bound n (.sc (.int k (i : Int))) = some i := by
  simp only [bound]
  rw [if_pos (by omega)]
  rfl
theorem src_elems {es : Nat} {q : PV} {ys : List PV} (h : elemsOf σ q = some ys) : srcOf σ es q = some ys := by
  cases q with
  | sc v => simp [elemsOf] at h
  | _ => exact h
theorem labs_okT (l : List Lab) (k : Nat) : (((labs l).take k).all fun y => okc y && (cellsOf y).length == 2) = true := by
  have : (labs l).take k = labs (l.take k) := by simp [labs]
  rw [this]; exact labs_ok _
theorem labs_okD (l : List Lab) (k : Nat) : (((labs l).drop k).all fun y => okc y && (cellsOf y).length == 2) = true := by
  have : (labs l).drop k = labs (l.drop k) := by simp [labs]
  rw [this]; exact labs_ok _
/-- What stands while the place for m is sought. -/
structure Seek (l : List Lab) (i : Nat) (a : List Lab) (m : Lab) (pb : PV) (k : Nat) (fr : Fr) (σ : St) : Prop where
  le : k ≤ a.length
  f9 : fr 9 = .sl (labs l)
  f11 : fr 11 = .sc (.int .i64 i)
  f10 : fr 10 = .sc (.int .i64 l.length)
  f5 : fr 5 = pb
  pb : ∃ g, pb = .bx 2000005 g 2 0 0 ∧ σ.m 2000005 g = some ⟨2, [lab m], true, true⟩ ∧ g < σ.c 2000005
  g3 : Gat σ [46] 2 false (fr 3) (labs a)
  f6 : fr 6 = .sc (.int .i64 k)
  ins : insAt m a a.length = insAt m a k
theorem a201 (L : Has ll0 env) (R : Has lr env) {l : List Lab} (hn : l.length ≤ 1000000) (hl : Smalls l) : AV env 201 [.sl (labs l)] = some (.sl (labs (sortedL l))) := by
  refine AV_wp (R (201, d201) (by simp [lr])) rfl ?_
  have hll := labs_len l
  (repeat' first
    | refine w_seq ?_ | refine w_rg ?_ | refine wo_nil ?_ | refine g_skU ?_
    | ((first | apply s_plain | apply s_void | apply s_guard); · simp only [go_sem, Nat.reduceEqDiff, Nat.reduceAdd, Nat.reduceLeDiff, hll]; (first | done | rfl))
    | ((first | apply g_T | apply g_F); · intro hb; simp only [go_sem, Nat.reduceEqDiff, Nat.reduceAdd, Nat.reduceLeDiff, hll, hb]; (first | done | rfl))
    | ((first | apply g_gT | apply g_gF); · intro hb hc; simp only [go_sem, Nat.reduceEqDiff, Nat.reduceAdd, Nat.reduceLeDiff, hll, hb, hc]; (first | done | rfl))
    | refine g_skT ?_ | refine g_skF ?_
    | ((first | apply g_goT | apply g_goF); · simp only [go_sem, Nat.reduceEqDiff, Nat.reduceAdd, Nat.reduceLeDiff, hll]; (first | done | rfl))
    )
  refine w_block (w_range l.length (by omega) (fun i fr σ => fr 9 = .sl (labs l) ∧ Gat σ [46] 2 false (fr 3) (labs (sortedL (l.take i)))) (by decide) ?_ ?_ ?_ _ _ ?_ ?_ ?_)
  · rintro i fr σ v ⟨h0, h1⟩
    refine ⟨⟨?_, ?_⟩, ⟨?_, ?_⟩, ⟨?_, ?_⟩⟩ <;> simp only [go_sem, Nat.reduceEqDiff, Nat.reduceAdd, Nat.reduceLeDiff, h0, h1]
  · rintro i fr σ hi ⟨f9, hg⟩ hti htn
    have hy := labs_at (List.getElem?_eq_getElem hi)
    have e1 : (0 : Int) ≤ (i : Int) ∧ (i : Int) < (l.length : Int) := by omega
    have hal : (sortedL (l.take i)).length = i := by rw [sortedL_len, List.length_take]; omega
    refine w_block ?_
    simp only [lab] at hy
    (repeat' first
    | refine w_seq ?_ | refine w_rg ?_ | refine wo_nil ?_ | refine g_skU ?_
    | ((first | apply s_plain | apply s_void | apply s_guard); · simp only [go_sem, Nat.reduceEqDiff, Nat.reduceAdd, Nat.reduceLeDiff, f9, hti, e1, hll, Int.toNat_natCast, hy, List.modify_zero_cons]; (first | done | rfl))
    | ((first | apply g_T | apply g_F); · intro hb; simp only [go_sem, Nat.reduceEqDiff, Nat.reduceAdd, Nat.reduceLeDiff, f9, hti, e1, hll, Int.toNat_natCast, hy, List.modify_zero_cons, hb]; (first | done | rfl))
    | ((first | apply g_gT | apply g_gF); · intro hb hc; simp only [go_sem, Nat.reduceEqDiff, Nat.reduceAdd, Nat.reduceLeDiff, f9, hti, e1, hll, Int.toNat_natCast, hy, List.modify_zero_cons, hb, hc]; (first | done | rfl))
    | refine g_skT ?_ | refine g_skF ?_
    | ((first | apply g_goT | apply g_goF); · simp only [go_sem, Nat.reduceEqDiff, Nat.reduceAdd, Nat.reduceLeDiff, f9, hti, e1, hll, Int.toNat_natCast, hy, List.modify_zero_cons]; (first | done | rfl))
    )
    have hg1 : Gat ((σ.new 2000005 ⟨2, [.agg [.sc (.string ⟨#[]⟩), .sc (.string ⟨#[]⟩)]], true, true⟩).put 2000005 (σ.c 2000005) (some ⟨2, [.agg [.sc (.string l[i].1), .sc (.string l[i].2)]], true, true⟩)) [46] 2 false (fr 3) (labs (sortedL (l.take i))) := (hg.new _).put (d := 2000005) (by decide) _
    refine s_plain (gat_len hg1 (by simp only [go_sem, Nat.reduceEqDiff, Nat.reduceAdd, Nat.reduceLeDiff])) ?_
    (repeat' first
    | refine w_seq ?_ | refine w_rg ?_ | refine wo_nil ?_ | refine g_skU ?_
    | ((first | apply s_plain | apply s_void | apply s_guard); · simp only [go_sem, Nat.reduceEqDiff, Nat.reduceAdd, Nat.reduceLeDiff]; (first | done | rfl))
    | ((first | apply g_T | apply g_F); · intro hb; simp only [go_sem, Nat.reduceEqDiff, Nat.reduceAdd, Nat.reduceLeDiff, hb]; (first | done | rfl))
    | ((first | apply g_gT | apply g_gF); · intro hb hc; simp only [go_sem, Nat.reduceEqDiff, Nat.reduceAdd, Nat.reduceLeDiff, hb, hc]; (first | done | rfl))
    | refine g_skT ?_ | refine g_skF ?_
    | ((first | apply g_goT | apply g_goF); · simp only [go_sem, Nat.reduceEqDiff, Nat.reduceAdd, Nat.reduceLeDiff]; (first | done | rfl))
    )
    generalize hσ : ((σ.new 2000005 ⟨2, [.agg [.sc (.string ⟨#[]⟩), .sc (.string ⟨#[]⟩)]], true, true⟩).put 2000005 (σ.c 2000005) (some ⟨2, [.agg [.sc (.string l[i].1), .sc (.string l[i].2)]], true, true⟩)) = σ1 at hg1 ⊢
    refine Wp.mono (Q := fun x fr τ => x = .normal ∧ ∃ k, Seek l i (sortedL (l.take i)) l[i] (.bx 2000005 (σ.c 2000005) 2 0 0) k fr τ ∧ insAt l[i] (sortedL (l.take i)) k = (sortedL (l.take i)).take k ++ l[i] :: (sortedL (l.take i)).drop k) ?_ ?_
    · refine w_block (w_loop (fun k fr τ => Seek l i (sortedL (l.take i)) l[i] (.bx 2000005 (σ.c 2000005) 2 0 0) k fr τ) ?_ (labs (sortedL (l.take i))).length _ _ ?_)
      · rintro k fr τ ⟨hle, q9, q11, q10, q5, ⟨g5, hpb, hm5, hlt5⟩, qg, q6, qi⟩
        obtain rfl : g5 = σ.c 2000005 := by simpa using hpb.symm
        cases k with
        | zero =>
          have hd0 : decide (((0 : Nat) : Int) > 0) = false := rfl
          (repeat' first
    | refine w_seq ?_ | refine w_rg ?_ | refine wo_nil ?_ | refine g_skU ?_
    | ((first | apply s_plain | apply s_void | apply s_guard); · simp only [go_sem, Nat.reduceEqDiff, Nat.reduceAdd, Nat.reduceLeDiff, q9, q11, q10, q5, q6, hd0]; (first | done | rfl))
    | ((first | apply g_T | apply g_F); · intro hb; simp only [go_sem, Nat.reduceEqDiff, Nat.reduceAdd, Nat.reduceLeDiff, q9, q11, q10, q5, q6, hd0, hb]; (first | done | rfl))
    | ((first | apply g_gT | apply g_gF); · intro hb hc; simp only [go_sem, Nat.reduceEqDiff, Nat.reduceAdd, Nat.reduceLeDiff, q9, q11, q10, q5, q6, hd0, hb, hc]; (first | done | rfl))
    | refine g_skT ?_ | refine g_skF ?_
    | ((first | apply g_goT | apply g_goF); · simp only [go_sem, Nat.reduceEqDiff, Nat.reduceAdd, Nat.reduceLeDiff, q9, q11, q10, q5, q6, hd0]; (first | done | rfl))
    | (refine w_condT ?_ ?_; · simp only [go_sem, Nat.reduceEqDiff, Nat.reduceAdd, Nat.reduceLeDiff, q9, q11, q10, q5, q6, hd0]; (first | done | rfl))
    | (refine w_condF ?_ ?_; · simp only [go_sem, Nat.reduceEqDiff, Nat.reduceAdd, Nat.reduceLeDiff, q9, q11, q10, q5, q6, hd0]; (first | done | rfl))
    | refine w_skip ?_ | refine w_exit ?_ | refine w_ret ?_
    )
          try simp only [if_true]
          refine ⟨by first | rfl | trivial, 0, ⟨hle, ?_, ?_, ?_, ?_, ⟨σ.c 2000005, rfl, hm5, hlt5⟩, ?_, ?_, qi⟩, rfl⟩
          · simp only [go_sem, Nat.reduceEqDiff, Nat.reduceAdd, Nat.reduceLeDiff, q9]
          · simp only [go_sem, Nat.reduceEqDiff, Nat.reduceAdd, Nat.reduceLeDiff, q11]
          · simp only [go_sem, Nat.reduceEqDiff, Nat.reduceAdd, Nat.reduceLeDiff, q10]
          · simp only [go_sem, Nat.reduceEqDiff, Nat.reduceAdd, Nat.reduceLeDiff, q5]
          · simp only [go_sem, Nat.reduceEqDiff, Nat.reduceAdd, Nat.reduceLeDiff]; exact qg
          · simp only [go_sem, Nat.reduceEqDiff, Nat.reduceAdd, Nat.reduceLeDiff, q6]
        | succ k =>
          have hd1 : decide (((k + 1 : Nat) : Int) > 0) = true := decide_eq_true (by omega)
          have e2 : IntKind.i64.wrap (((k + 1 : Nat) : Int) - 1) = (k : Int) := by rw [IntKind.wrap_i64]; omega
          have hx0 : (sortedL (l.take i))[k]? = some (nth (sortedL (l.take i)) k) := by unfold nth; rw [List.getElem?_eq_getElem (show k < (sortedL (l.take i)).length by omega)]; rfl
          have x0 := labs_at hx0
          simp only [lab] at x0 hm5
          have hsm : Smalls (sortedL (l.take i)) := sorted_smalls fun m hm => hl m (List.mem_of_mem_take hm)
          have h119 := a119 L (a := l[i].1) (b := (nth (sortedL (l.take i)) k).1) (hl _ (List.getElem_mem hi)).1 (hsm _ (List.mem_of_getElem? hx0)).1
          have hal2 : (labs (sortedL (l.take i))).length = i := by rw [labs_len]; exact hal
          rcases qg with ⟨_, hnil⟩ | ⟨o, g, wr, ho, q3, qm, qc, qne, _⟩
          · exfalso
            have := congrArg List.length hnil
            rw [labs_len] at this
            simp only [List.length_nil] at this
            omega
          · rw [hal2] at q3
            have ho' : o = 46 := by simpa using ho
            subst ho'
            have e4 : (0 : Int) ≤ (k : Int) ∧ (k : Int) < (i : Int) := by omega
            have qg' : Gat τ [46] 2 false (fr 3) (labs (sortedL (l.take i))) := .inr ⟨46, g, wr, by simp, by rw [q3, hal2], qm, qc, qne, fun h => by cases h⟩
            (repeat' first
    | refine w_seq ?_ | refine w_rg ?_ | refine wo_nil ?_ | refine g_skU ?_
    | ((first | apply s_plain | apply s_void | apply s_guard); · simp only [go_sem, Nat.reduceEqDiff, Nat.reduceAdd, Nat.reduceLeDiff, q9, q11, q10, q5, q6, q3, hm5, qm, hd1, e2, e4, Int.toNat_natCast, x0, h119]; (first | done | rfl))
    | ((first | apply g_T | apply g_F); · intro hb; simp only [go_sem, Nat.reduceEqDiff, Nat.reduceAdd, Nat.reduceLeDiff, q9, q11, q10, q5, q6, q3, hm5, qm, hd1, e2, e4, Int.toNat_natCast, x0, h119, hb]; (first | done | rfl))
    | ((first | apply g_gT | apply g_gF); · intro hb hc; simp only [go_sem, Nat.reduceEqDiff, Nat.reduceAdd, Nat.reduceLeDiff, q9, q11, q10, q5, q6, q3, hm5, qm, hd1, e2, e4, Int.toNat_natCast, x0, h119, hb, hc]; (first | done | rfl))
    | refine g_skT ?_ | refine g_skF ?_
    | ((first | apply g_goT | apply g_goF); · simp only [go_sem, Nat.reduceEqDiff, Nat.reduceAdd, Nat.reduceLeDiff, q9, q11, q10, q5, q6, q3, hm5, qm, hd1, e2, e4, Int.toNat_natCast, x0, h119]; (first | done | rfl))
    )
            have hins : insAt l[i] (sortedL (l.take i)) (k + 1) = if lessB l[i].1 (nth (sortedL (l.take i)) k).1 then insAt l[i] (sortedL (l.take i)) k else (sortedL (l.take i)).take (k + 1) ++ l[i] :: (sortedL (l.take i)).drop (k + 1) := rfl
            cases hls : lessB l[i].1 (nth (sortedL (l.take i)) k).1 with
            | false =>
              rw [hls, if_neg (by decide)] at hins
              (repeat' first
    | refine w_seq ?_ | refine w_rg ?_ | refine wo_nil ?_ | refine g_skU ?_
    | ((first | apply s_plain | apply s_void | apply s_guard); · simp only [go_sem, Nat.reduceEqDiff, Nat.reduceAdd, Nat.reduceLeDiff]; (first | done | rfl))
    | ((first | apply g_T | apply g_F); · intro hb; simp only [go_sem, Nat.reduceEqDiff, Nat.reduceAdd, Nat.reduceLeDiff, hb]; (first | done | rfl))
    | ((first | apply g_gT | apply g_gF); · intro hb hc; simp only [go_sem, Nat.reduceEqDiff, Nat.reduceAdd, Nat.reduceLeDiff, hb, hc]; (first | done | rfl))
    | refine g_skT ?_ | refine g_skF ?_
    | ((first | apply g_goT | apply g_goF); · simp only [go_sem, Nat.reduceEqDiff, Nat.reduceAdd, Nat.reduceLeDiff]; (first | done | rfl))
    | (refine w_condT ?_ ?_; · simp only [go_sem, Nat.reduceEqDiff, Nat.reduceAdd, Nat.reduceLeDiff]; (first | done | rfl))
    | (refine w_condF ?_ ?_; · simp only [go_sem, Nat.reduceEqDiff, Nat.reduceAdd, Nat.reduceLeDiff]; (first | done | rfl))
    | refine w_skip ?_ | refine w_exit ?_ | refine w_ret ?_
    )
              try simp only [if_true]
              refine ⟨by first | rfl | trivial, k + 1, ⟨hle, ?_, ?_, ?_, ?_, ⟨σ.c 2000005, rfl, hm5, hlt5⟩, ?_, ?_, qi⟩, hins⟩
              · simp only [go_sem, Nat.reduceEqDiff, Nat.reduceAdd, Nat.reduceLeDiff, q9]
              · simp only [go_sem, Nat.reduceEqDiff, Nat.reduceAdd, Nat.reduceLeDiff, q11]
              · simp only [go_sem, Nat.reduceEqDiff, Nat.reduceAdd, Nat.reduceLeDiff, q10]
              · simp only [go_sem, Nat.reduceEqDiff, Nat.reduceAdd, Nat.reduceLeDiff, q5]
              · simp only [go_sem, Nat.reduceEqDiff, Nat.reduceAdd, Nat.reduceLeDiff]; exact qg'
              · simp only [go_sem, Nat.reduceEqDiff, Nat.reduceAdd, Nat.reduceLeDiff, q6]
            | true =>
              rw [hls, if_pos rfl] at hins
              (repeat' first
    | refine w_seq ?_ | refine w_rg ?_ | refine wo_nil ?_ | refine g_skU ?_
    | ((first | apply s_plain | apply s_void | apply s_guard); · simp only [go_sem, Nat.reduceEqDiff, Nat.reduceAdd, Nat.reduceLeDiff]; (first | done | rfl))
    | ((first | apply g_T | apply g_F); · intro hb; simp only [go_sem, Nat.reduceEqDiff, Nat.reduceAdd, Nat.reduceLeDiff, hb]; (first | done | rfl))
    | ((first | apply g_gT | apply g_gF); · intro hb hc; simp only [go_sem, Nat.reduceEqDiff, Nat.reduceAdd, Nat.reduceLeDiff, hb, hc]; (first | done | rfl))
    | refine g_skT ?_ | refine g_skF ?_
    | ((first | apply g_goT | apply g_goF); · simp only [go_sem, Nat.reduceEqDiff, Nat.reduceAdd, Nat.reduceLeDiff]; (first | done | rfl))
    | (refine w_condT ?_ ?_; · simp only [go_sem, Nat.reduceEqDiff, Nat.reduceAdd, Nat.reduceLeDiff]; (first | done | rfl))
    | (refine w_condF ?_ ?_; · simp only [go_sem, Nat.reduceEqDiff, Nat.reduceAdd, Nat.reduceLeDiff]; (first | done | rfl))
    | refine w_skip ?_ | refine w_exit ?_ | refine w_ret ?_
    )
              refine w_block ?_
              (repeat' first
    | refine w_seq ?_ | refine w_rg ?_ | refine wo_nil ?_ | refine g_skU ?_
    | ((first | apply s_plain | apply s_void | apply s_guard); · simp only [go_sem, Nat.reduceEqDiff, Nat.reduceAdd, Nat.reduceLeDiff, q6, e2]; (first | done | rfl))
    | ((first | apply g_T | apply g_F); · intro hb; simp only [go_sem, Nat.reduceEqDiff, Nat.reduceAdd, Nat.reduceLeDiff, q6, e2, hb]; (first | done | rfl))
    | ((first | apply g_gT | apply g_gF); · intro hb hc; simp only [go_sem, Nat.reduceEqDiff, Nat.reduceAdd, Nat.reduceLeDiff, q6, e2, hb, hc]; (first | done | rfl))
    | refine g_skT ?_ | refine g_skF ?_
    | ((first | apply g_goT | apply g_goF); · simp only [go_sem, Nat.reduceEqDiff, Nat.reduceAdd, Nat.reduceLeDiff, q6, e2]; (first | done | rfl))
    | (refine w_condT ?_ ?_; · simp only [go_sem, Nat.reduceEqDiff, Nat.reduceAdd, Nat.reduceLeDiff, q6, e2]; (first | done | rfl))
    | (refine w_condF ?_ ?_; · simp only [go_sem, Nat.reduceEqDiff, Nat.reduceAdd, Nat.reduceLeDiff, q6, e2]; (first | done | rfl))
    | refine w_skip ?_ | refine w_exit ?_ | refine w_ret ?_
    )
              refine ⟨k, by omega, ⟨by omega, ?_, ?_, ?_, ?_, ⟨σ.c 2000005, rfl, hm5, hlt5⟩, ?_, ?_, by rw [qi, hins]⟩⟩
              · simp only [go_sem, Nat.reduceEqDiff, Nat.reduceAdd, Nat.reduceLeDiff, q9]
              · simp only [go_sem, Nat.reduceEqDiff, Nat.reduceAdd, Nat.reduceLeDiff, q11]
              · simp only [go_sem, Nat.reduceEqDiff, Nat.reduceAdd, Nat.reduceLeDiff, q10]
              · simp only [go_sem, Nat.reduceEqDiff, Nat.reduceAdd, Nat.reduceLeDiff, q5]
              · simp only [go_sem, Nat.reduceEqDiff, Nat.reduceAdd, Nat.reduceLeDiff]; exact qg'
              · simp only [go_sem, Nat.reduceEqDiff, Nat.reduceAdd, Nat.reduceLeDiff]
      · refine ⟨by rw [labs_len]; exact Nat.le_refl _, ?_, ?_, ?_, ?_, ⟨σ.c 2000005, rfl, ?_, ?_⟩, ?_, ?_, by rw [labs_len]⟩
        · simp only [go_sem, Nat.reduceEqDiff, Nat.reduceAdd, Nat.reduceLeDiff, f9]
        · simp only [go_sem, Nat.reduceEqDiff, Nat.reduceAdd, Nat.reduceLeDiff, hti]
        · simp only [go_sem, Nat.reduceEqDiff, Nat.reduceAdd, Nat.reduceLeDiff, htn]
        · simp only [go_sem, Nat.reduceEqDiff, Nat.reduceAdd, Nat.reduceLeDiff]
        · rw [← hσ]; simp only [go_sem, Nat.reduceEqDiff, Nat.reduceAdd, Nat.reduceLeDiff]; rfl
        · rw [← hσ]; simp only [go_sem, Nat.reduceEqDiff, Nat.reduceAdd, Nat.reduceLeDiff]
        · simp only [go_sem, Nat.reduceEqDiff, Nat.reduceAdd, Nat.reduceLeDiff]; exact hg1
        · simp only [go_sem, Nat.reduceEqDiff, Nat.reduceAdd, Nat.reduceLeDiff]
    · rintro x fr τ ⟨rfl, k, ⟨hle, q9, q11, q10, q5, ⟨g5, hpb, hm5, hlt5⟩, qg, q6, qi⟩, hins⟩
      obtain rfl : g5 = σ.c 2000005 := by simpa using hpb.symm
      have hal2 : (labs (sortedL (l.take i))).length = i := by rw [labs_len]; exact hal
      have bk := bound_nat (k := .i64) (show k ≤ i by omega)
      simp only [lab] at hm5
      (repeat' first
    | refine w_seq ?_ | refine w_rg ?_ | refine wo_nil ?_ | refine g_skU ?_
    | ((first | apply s_plain | apply s_void | apply s_guard); · simp only [go_sem, Nat.reduceEqDiff, Nat.reduceAdd, Nat.reduceLeDiff, q9, q11, q10, q5, q6]; (first | done | rfl))
    | ((first | apply g_T | apply g_F); · intro hb; simp only [go_sem, Nat.reduceEqDiff, Nat.reduceAdd, Nat.reduceLeDiff, q9, q11, q10, q5, q6, hb]; (first | done | rfl))
    | ((first | apply g_gT | apply g_gF); · intro hb hc; simp only [go_sem, Nat.reduceEqDiff, Nat.reduceAdd, Nat.reduceLeDiff, q9, q11, q10, q5, q6, hb, hc]; (first | done | rfl))
    | refine g_skT ?_ | refine g_skF ?_
    | ((first | apply g_goT | apply g_goF); · simp only [go_sem, Nat.reduceEqDiff, Nat.reduceAdd, Nat.reduceLeDiff, q9, q11, q10, q5, q6]; (first | done | rfl))
    )
      refine s_slc (h := k) (l := 0) (os := [46]) (w := false) (xs := labs (sortedL (l.take i))) (by simp only [go_sem, Nat.reduceEqDiff, Nat.reduceAdd, Nat.reduceLeDiff]; exact qg) (by simp only [go_sem, Nat.reduceEqDiff, Nat.reduceAdd, Nat.reduceLeDiff, hal2, q6, bk]) (by simp only [go_sem, Nat.reduceEqDiff, Nat.reduceAdd, Nat.reduceLeDiff]) (by omega) (Nat.zero_le _) ?_
      intro s1 hs1
      rw [List.drop_zero] at hs1
      refine s_gatL (os := []) (w := true) (xs := []) (ys := (labs (sortedL (l.take i))).take k) (by simp only [go_sem, Nat.reduceEqDiff, Nat.reduceAdd, Nat.reduceLeDiff]; exact .em) (by simp only [go_sem, Nat.reduceEqDiff, Nat.reduceAdd, Nat.reduceLeDiff]; exact src_elems hs1) (labs_okT _ _) (by simp; omega) ?_
      intro p1 τ1 hg1' kp1
      have hm5a : τ1.m 2000005 (σ.c 2000005) = some ⟨2, [.agg [.sc (.string l[i].1), .sc (.string l[i].2)]], true, true⟩ := by rw [kp1.m 2000005 _ (by simp) hlt5]; exact hm5
      have qg1 := qg.keep kp1 (by simp)
      (repeat' first
    | refine w_seq ?_ | refine w_rg ?_ | refine wo_nil ?_ | refine g_skU ?_
    | ((first | apply s_plain | apply s_void | apply s_guard); · simp only [go_sem, Nat.reduceEqDiff, Nat.reduceAdd, Nat.reduceLeDiff, q9, q11, q10, q5, q6, hm5a, fillE, List.replicate_succ, List.replicate_zero, List.set_cons_zero, List.drop_zero]; (first | done | rfl))
    | ((first | apply g_T | apply g_F); · intro hb; simp only [go_sem, Nat.reduceEqDiff, Nat.reduceAdd, Nat.reduceLeDiff, q9, q11, q10, q5, q6, hm5a, fillE, List.replicate_succ, List.replicate_zero, List.set_cons_zero, List.drop_zero, hb]; (first | done | rfl))
    | ((first | apply g_gT | apply g_gF); · intro hb hc; simp only [go_sem, Nat.reduceEqDiff, Nat.reduceAdd, Nat.reduceLeDiff, q9, q11, q10, q5, q6, hm5a, fillE, List.replicate_succ, List.replicate_zero, List.set_cons_zero, List.drop_zero, hb, hc]; (first | done | rfl))
    | refine g_skT ?_ | refine g_skF ?_
    | ((first | apply g_goT | apply g_goF); · simp only [go_sem, Nat.reduceEqDiff, Nat.reduceAdd, Nat.reduceLeDiff, q9, q11, q10, q5, q6, hm5a, fillE, List.replicate_succ, List.replicate_zero, List.set_cons_zero, List.drop_zero]; (first | done | rfl))
    )
      refine s_gatL (os := [37]) (w := false) (ys := [.agg [.sc (.string l[i].1), .sc (.string l[i].2)]]) (by simp only [go_sem, Nat.reduceEqDiff, Nat.reduceAdd, Nat.reduceLeDiff]; exact hg1'.new _) (by simp only [go_sem, Nat.reduceEqDiff, Nat.reduceAdd, Nat.reduceLeDiff, srcOf, elemsOf, List.drop_zero]) rfl (by simp; omega) ?_
      intro p2 τ2 hg2' kp2
      have qg2 := (qg1.new _).keep kp2 (by simp)
      (repeat' first
    | refine w_seq ?_ | refine w_rg ?_ | refine wo_nil ?_ | refine g_skU ?_
    | ((first | apply s_plain | apply s_void | apply s_guard); · simp only [go_sem, Nat.reduceEqDiff, Nat.reduceAdd, Nat.reduceLeDiff, q9, q11, q10, q5, q6]; (first | done | rfl))
    | ((first | apply g_T | apply g_F); · intro hb; simp only [go_sem, Nat.reduceEqDiff, Nat.reduceAdd, Nat.reduceLeDiff, q9, q11, q10, q5, q6, hb]; (first | done | rfl))
    | ((first | apply g_gT | apply g_gF); · intro hb hc; simp only [go_sem, Nat.reduceEqDiff, Nat.reduceAdd, Nat.reduceLeDiff, q9, q11, q10, q5, q6, hb, hc]; (first | done | rfl))
    | refine g_skT ?_ | refine g_skF ?_
    | ((first | apply g_goT | apply g_goF); · simp only [go_sem, Nat.reduceEqDiff, Nat.reduceAdd, Nat.reduceLeDiff, q9, q11, q10, q5, q6]; (first | done | rfl))
    )
      refine s_slc (h := i) (l := k) (os := [46]) (w := false) (xs := labs (sortedL (l.take i))) (by simp only [go_sem, Nat.reduceEqDiff, Nat.reduceAdd, Nat.reduceLeDiff]; exact qg2) (by simp only [go_sem, Nat.reduceEqDiff, Nat.reduceAdd, Nat.reduceLeDiff, hal2]) (by simp only [go_sem, Nat.reduceEqDiff, Nat.reduceAdd, Nat.reduceLeDiff, q6, bk]) (by omega) (by omega) ?_
      intro s2 hs2
      rw [List.take_of_length_le (by omega)] at hs2
      refine s_gatL (os := [41]) (w := false) (ys := (labs (sortedL (l.take i))).drop k) (by simp only [go_sem, Nat.reduceEqDiff, Nat.reduceAdd, Nat.reduceLeDiff]; exact hg2') (by simp only [go_sem, Nat.reduceEqDiff, Nat.reduceAdd, Nat.reduceLeDiff]; exact src_elems hs2) (labs_okD _ _) (by simp; omega) ?_
      intro p3 τ3 hg3' kp3
      (repeat' first
    | refine w_seq ?_ | refine w_rg ?_ | refine wo_nil ?_ | refine g_skU ?_
    | ((first | apply s_plain | apply s_void | apply s_guard); · simp only [go_sem, Nat.reduceEqDiff, Nat.reduceAdd, Nat.reduceLeDiff]; (first | done | rfl))
    | ((first | apply g_T | apply g_F); · intro hb; simp only [go_sem, Nat.reduceEqDiff, Nat.reduceAdd, Nat.reduceLeDiff, hb]; (first | done | rfl))
    | ((first | apply g_gT | apply g_gF); · intro hb hc; simp only [go_sem, Nat.reduceEqDiff, Nat.reduceAdd, Nat.reduceLeDiff, hb, hc]; (first | done | rfl))
    | refine g_skT ?_ | refine g_skF ?_
    | ((first | apply g_goT | apply g_goF); · simp only [go_sem, Nat.reduceEqDiff, Nat.reduceAdd, Nat.reduceLeDiff]; (first | done | rfl))
    | (refine w_condT ?_ ?_; · simp only [go_sem, Nat.reduceEqDiff, Nat.reduceAdd, Nat.reduceLeDiff]; (first | done | rfl))
    | (refine w_condF ?_ ?_; · simp only [go_sem, Nat.reduceEqDiff, Nat.reduceAdd, Nat.reduceLeDiff]; (first | done | rfl))
    | refine w_skip ?_ | refine w_exit ?_ | refine w_ret ?_
    )
      refine ⟨⟨?_, ?_⟩, ?_, ?_⟩
      · simp only [go_sem, Nat.reduceEqDiff, Nat.reduceAdd, Nat.reduceLeDiff, q9]
      · simp only [go_sem, Nat.reduceEqDiff, Nat.reduceAdd, Nat.reduceLeDiff]
        have hfin : labs (sortedL (l.take (i + 1))) = [] ++ (labs (sortedL (l.take i))).take k ++ [.agg [.sc (.string l[i].1), .sc (.string l[i].2)]] ++ (labs (sortedL (l.take i))).drop k := by
          rw [sortedL_succ hi, insR, qi, hins]
          simp [labs, lab]
        rw [hfin]
        exact hg3'
      · simp only [go_sem, Nat.reduceEqDiff, Nat.reduceAdd, Nat.reduceLeDiff, q11]
      · simp only [go_sem, Nat.reduceEqDiff, Nat.reduceAdd, Nat.reduceLeDiff, q10]
  · rintro fr σ ⟨f9, hg⟩
    try simp only [if_true]
    rw [List.take_of_length_le (Nat.le_refl _)] at hg
    have hfz := hg.fz (labs_fz σ _)
    (repeat' first
    | refine w_seq ?_ | refine w_rg ?_ | refine wo_nil ?_ | refine g_skU ?_
    | ((first | apply s_plain | apply s_void | apply s_guard); · simp only [go_sem, Nat.reduceEqDiff, Nat.reduceAdd, Nat.reduceLeDiff]; (first | done | rfl))
    | ((first | apply g_T | apply g_F); · intro hb; simp only [go_sem, Nat.reduceEqDiff, Nat.reduceAdd, Nat.reduceLeDiff, hb]; (first | done | rfl))
    | ((first | apply g_gT | apply g_gF); · intro hb hc; simp only [go_sem, Nat.reduceEqDiff, Nat.reduceAdd, Nat.reduceLeDiff, hb, hc]; (first | done | rfl))
    | refine g_skT ?_ | refine g_skF ?_
    | ((first | apply g_goT | apply g_goF); · simp only [go_sem, Nat.reduceEqDiff, Nat.reduceAdd, Nat.reduceLeDiff]; (first | done | rfl))
    | (refine w_condT ?_ ?_; · simp only [go_sem, Nat.reduceEqDiff, Nat.reduceAdd, Nat.reduceLeDiff]; (first | done | rfl))
    | (refine w_condF ?_ ?_; · simp only [go_sem, Nat.reduceEqDiff, Nat.reduceAdd, Nat.reduceLeDiff]; (first | done | rfl))
    | refine w_skip ?_ | refine w_exit ?_ | refine w_ret ?_
    )
    exact ⟨.inr rfl, by simp only [go_sem, Nat.reduceEqDiff, Nat.reduceAdd, Nat.reduceLeDiff, retOf, resOf, hfz]⟩
  · exact ⟨by simp only [go_sem, Nat.reduceEqDiff, Nat.reduceAdd, Nat.reduceLeDiff], by simp only [go_sem, Nat.reduceEqDiff, Nat.reduceAdd, Nat.reduceLeDiff]; exact .em⟩
  · simp only [go_sem, Nat.reduceEqDiff, Nat.reduceAdd, Nat.reduceLeDiff]
  · simp only [go_sem, Nat.reduceEqDiff, Nat.reduceAdd, Nat.reduceLeDiff, hll]
theorem a191 (L : Has ll0 env) (R : Has lr env) {l over : List Lab} (hn : l.length ≤ 1000) (hl : Smalls l) (hn' : over.length ≤ 1000) (hl' : Smalls over) :
    AV env 191 [.sl (labs l), .sl (labs over)] = some (.sl (labs (sortedL (overL l over)))) := by
  have hll := labs_len l
  have hlo := labs_len over
  refine AV_wp (R (191, d191) (by simp [lr])) rfl ?_
  (repeat' first
    | refine w_seq ?_ | refine w_rg ?_ | refine wo_nil ?_ | refine g_skU ?_
    | ((first | apply s_plain | apply s_void | apply s_guard); · simp only [go_sem, Nat.reduceEqDiff, Nat.reduceAdd, Nat.reduceLeDiff]; (first | done | rfl))
    | ((first | apply g_T | apply g_F); · intro hb; simp only [go_sem, Nat.reduceEqDiff, Nat.reduceAdd, Nat.reduceLeDiff, hb]; (first | done | rfl))
    | ((first | apply g_gT | apply g_gF); · intro hb hc; simp only [go_sem, Nat.reduceEqDiff, Nat.reduceAdd, Nat.reduceLeDiff, hb, hc]; (first | done | rfl))
    | refine g_skT ?_ | refine g_skF ?_
    | ((first | apply g_goT | apply g_goF); · simp only [go_sem, Nat.reduceEqDiff, Nat.reduceAdd, Nat.reduceLeDiff]; (first | done | rfl))
    )
  refine s_gatL (os := []) (w := true) (xs := []) (ys := labs over) (by simp only [go_sem, Nat.reduceEqDiff, Nat.reduceAdd, Nat.reduceLeDiff]; exact .em) (by simp only [go_sem, Nat.reduceEqDiff, Nat.reduceAdd, Nat.reduceLeDiff, srcOf, elemsOf]) (labs_ok _) (by simp; omega) ?_
  intro r σ1 hg _
  rw [List.nil_append] at hg
  (repeat' first
    | refine w_seq ?_ | refine w_rg ?_ | refine wo_nil ?_ | refine g_skU ?_
    | ((first | apply s_plain | apply s_void | apply s_guard); · simp only [go_sem, Nat.reduceEqDiff, Nat.reduceAdd, Nat.reduceLeDiff, hll]; (first | done | rfl))
    | ((first | apply g_T | apply g_F); · intro hb; simp only [go_sem, Nat.reduceEqDiff, Nat.reduceAdd, Nat.reduceLeDiff, hll, hb]; (first | done | rfl))
    | ((first | apply g_gT | apply g_gF); · intro hb hc; simp only [go_sem, Nat.reduceEqDiff, Nat.reduceAdd, Nat.reduceLeDiff, hll, hb, hc]; (first | done | rfl))
    | refine g_skT ?_ | refine g_skF ?_
    | ((first | apply g_goT | apply g_goF); · simp only [go_sem, Nat.reduceEqDiff, Nat.reduceAdd, Nat.reduceLeDiff, hll]; (first | done | rfl))
    )
  refine w_block (w_range l.length (by omega) (fun i fr σ => fr 1 = .sl (labs over) ∧ fr 12 = .sl (labs l) ∧ Gat σ [11, 26] 2 false (fr 5) (labs (overL (l.take i) over))) (by decide) ?_ ?_ ?_ _ _ ?_ ?_ ?_)
  · rintro i fr σ v ⟨h0, h1, h2⟩
    refine ⟨⟨?_, ?_, ?_⟩, ⟨?_, ?_, ?_⟩, ⟨?_, ?_, ?_⟩⟩ <;> simp only [go_sem, Nat.reduceEqDiff, Nat.reduceAdd, Nat.reduceLeDiff, h0, h1, h2]
  · rintro i fr σ hi ⟨f1, f19, hg⟩ hti htn
    have hy := labs_at (List.getElem?_eq_getElem hi)
    have e1 : (0 : Int) ≤ (i : Int) ∧ (i : Int) < (l.length : Int) := by omega
    have h114 := a200 R (l := over) (n := l[i].1) (by omega)
    refine w_block ?_
    simp only [lab] at hy
    (repeat' first
    | refine w_seq ?_ | refine w_rg ?_ | refine wo_nil ?_ | refine g_skU ?_
    | ((first | apply s_plain | apply s_void | apply s_guard); · simp only [go_sem, Nat.reduceEqDiff, Nat.reduceAdd, Nat.reduceLeDiff, f1, f19, hti, e1, hll, Int.toNat_natCast, hy, List.modify_zero_cons, h114]; (first | done | rfl))
    | ((first | apply g_T | apply g_F); · intro hb; simp only [go_sem, Nat.reduceEqDiff, Nat.reduceAdd, Nat.reduceLeDiff, f1, f19, hti, e1, hll, Int.toNat_natCast, hy, List.modify_zero_cons, h114, hb]; (first | done | rfl))
    | ((first | apply g_gT | apply g_gF); · intro hb hc; simp only [go_sem, Nat.reduceEqDiff, Nat.reduceAdd, Nat.reduceLeDiff, f1, f19, hti, e1, hll, Int.toNat_natCast, hy, List.modify_zero_cons, h114, hb, hc]; (first | done | rfl))
    | refine g_skT ?_ | refine g_skF ?_
    | ((first | apply g_goT | apply g_goF); · simp only [go_sem, Nat.reduceEqDiff, Nat.reduceAdd, Nat.reduceLeDiff, f1, f19, hti, e1, hll, Int.toNat_natCast, hy, List.modify_zero_cons, h114]; (first | done | rfl))
    )
    have hmi : missB over l[i] = ((getB over l[i].1).toList == (⟨#[]⟩ : ByteArray).toList) := rfl
    have htake : l.take (i + 1) = l.take i ++ [l[i]] := List.take_succ_eq_append_getElem hi
    have hov : labs (overL (l.take (i + 1)) over) = labs (overL (l.take i) over) ++ (if missB over l[i] = true then [.agg [.sc (.string l[i].1), .sc (.string l[i].2)]] else []) := by
      rw [htake]
      unfold overL
      rw [List.filter_append]
      cases hm : missB over l[i] <;> simp [labs, hm, lab]
    cases hb : missB over l[i] with
    | true =>
      rw [hb, if_pos rfl] at hov
      rw [hmi] at hb
      refine w_condT (by simp only [go_sem, Nat.reduceEqDiff, Nat.reduceAdd, Nat.reduceLeDiff, hb]) ?_
      (repeat' first
    | refine w_seq ?_ | refine w_rg ?_ | refine wo_nil ?_ | refine g_skU ?_
    | ((first | apply s_plain | apply s_void | apply s_guard); · simp only [go_sem, Nat.reduceEqDiff, Nat.reduceAdd, Nat.reduceLeDiff, List.drop_zero, fillE, List.replicate_succ, List.replicate_zero, List.set_cons_zero]; (first | done | rfl))
    | ((first | apply g_T | apply g_F); · intro hb; simp only [go_sem, Nat.reduceEqDiff, Nat.reduceAdd, Nat.reduceLeDiff, List.drop_zero, fillE, List.replicate_succ, List.replicate_zero, List.set_cons_zero, hb]; (first | done | rfl))
    | ((first | apply g_gT | apply g_gF); · intro hb hc; simp only [go_sem, Nat.reduceEqDiff, Nat.reduceAdd, Nat.reduceLeDiff, List.drop_zero, fillE, List.replicate_succ, List.replicate_zero, List.set_cons_zero, hb, hc]; (first | done | rfl))
    | refine g_skT ?_ | refine g_skF ?_
    | ((first | apply g_goT | apply g_goF); · simp only [go_sem, Nat.reduceEqDiff, Nat.reduceAdd, Nat.reduceLeDiff, List.drop_zero, fillE, List.replicate_succ, List.replicate_zero, List.set_cons_zero]; (first | done | rfl))
    )
      have hlen : (labs (overL (l.take i) over)).length ≤ 3000 := by
        have := overL_len (l.take i) over
        rw [List.length_take] at this
        rw [labs_len]; omega
      refine s_gat (os := [11, 26]) (w := false) (xs := labs (overL (l.take i) over)) (e := .agg [.sc (.string l[i].1), .sc (.string l[i].2)]) (by simp only [go_sem, Nat.reduceEqDiff, Nat.reduceAdd, Nat.reduceLeDiff]; exact ((hg.new _).put (d := 2000007) (by decide) _).new _) (by decide) (by simp only [go_sem, Nat.reduceEqDiff, Nat.reduceAdd, Nat.reduceLeDiff, srcOf, elemsOf, List.drop_zero]) rfl rfl (by omega) ?_
      intro p σ' hg2
      simp only [Bool.false_and] at hg2
      rw [← hov] at hg2
      (repeat' first
    | refine w_seq ?_ | refine w_rg ?_ | refine wo_nil ?_ | refine g_skU ?_
    | ((first | apply s_plain | apply s_void | apply s_guard); · simp only [go_sem, Nat.reduceEqDiff, Nat.reduceAdd, Nat.reduceLeDiff]; (first | done | rfl))
    | ((first | apply g_T | apply g_F); · intro hb; simp only [go_sem, Nat.reduceEqDiff, Nat.reduceAdd, Nat.reduceLeDiff, hb]; (first | done | rfl))
    | ((first | apply g_gT | apply g_gF); · intro hb hc; simp only [go_sem, Nat.reduceEqDiff, Nat.reduceAdd, Nat.reduceLeDiff, hb, hc]; (first | done | rfl))
    | refine g_skT ?_ | refine g_skF ?_
    | ((first | apply g_goT | apply g_goF); · simp only [go_sem, Nat.reduceEqDiff, Nat.reduceAdd, Nat.reduceLeDiff]; (first | done | rfl))
    | (refine w_condT ?_ ?_; · simp only [go_sem, Nat.reduceEqDiff, Nat.reduceAdd, Nat.reduceLeDiff]; (first | done | rfl))
    | (refine w_condF ?_ ?_; · simp only [go_sem, Nat.reduceEqDiff, Nat.reduceAdd, Nat.reduceLeDiff]; (first | done | rfl))
    | refine w_skip ?_ | refine w_exit ?_ | refine w_ret ?_
    )
      refine ⟨⟨?_, ?_, ?_⟩, ?_, ?_⟩
      · simp only [go_sem, Nat.reduceEqDiff, Nat.reduceAdd, Nat.reduceLeDiff, f1]
      · simp only [go_sem, Nat.reduceEqDiff, Nat.reduceAdd, Nat.reduceLeDiff, f19]
      · simp only [go_sem, Nat.reduceEqDiff, Nat.reduceAdd, Nat.reduceLeDiff]; exact hg2
      · simp only [go_sem, Nat.reduceEqDiff, Nat.reduceAdd, Nat.reduceLeDiff, hti]
      · simp only [go_sem, Nat.reduceEqDiff, Nat.reduceAdd, Nat.reduceLeDiff, htn]
    | false =>
      rw [hb, if_neg (by decide), List.append_nil] at hov
      rw [hmi] at hb
      refine w_condF (by simp only [go_sem, Nat.reduceEqDiff, Nat.reduceAdd, Nat.reduceLeDiff, hb]) ?_
      (repeat' first
    | refine w_seq ?_ | refine w_rg ?_ | refine wo_nil ?_ | refine g_skU ?_
    | ((first | apply s_plain | apply s_void | apply s_guard); · simp only [go_sem, Nat.reduceEqDiff, Nat.reduceAdd, Nat.reduceLeDiff]; (first | done | rfl))
    | ((first | apply g_T | apply g_F); · intro hb; simp only [go_sem, Nat.reduceEqDiff, Nat.reduceAdd, Nat.reduceLeDiff, hb]; (first | done | rfl))
    | ((first | apply g_gT | apply g_gF); · intro hb hc; simp only [go_sem, Nat.reduceEqDiff, Nat.reduceAdd, Nat.reduceLeDiff, hb, hc]; (first | done | rfl))
    | refine g_skT ?_ | refine g_skF ?_
    | ((first | apply g_goT | apply g_goF); · simp only [go_sem, Nat.reduceEqDiff, Nat.reduceAdd, Nat.reduceLeDiff]; (first | done | rfl))
    | (refine w_condT ?_ ?_; · simp only [go_sem, Nat.reduceEqDiff, Nat.reduceAdd, Nat.reduceLeDiff]; (first | done | rfl))
    | (refine w_condF ?_ ?_; · simp only [go_sem, Nat.reduceEqDiff, Nat.reduceAdd, Nat.reduceLeDiff]; (first | done | rfl))
    | refine w_skip ?_ | refine w_exit ?_ | refine w_ret ?_
    )
      refine ⟨⟨?_, ?_, ?_⟩, ?_, ?_⟩
      · simp only [go_sem, Nat.reduceEqDiff, Nat.reduceAdd, Nat.reduceLeDiff, f1]
      · simp only [go_sem, Nat.reduceEqDiff, Nat.reduceAdd, Nat.reduceLeDiff, f19]
      · simp only [go_sem, Nat.reduceEqDiff, Nat.reduceAdd, Nat.reduceLeDiff]; rw [hov]; exact (hg.new _).put (d := 2000007) (by decide) _
      · simp only [go_sem, Nat.reduceEqDiff, Nat.reduceAdd, Nat.reduceLeDiff, hti]
      · simp only [go_sem, Nat.reduceEqDiff, Nat.reduceAdd, Nat.reduceLeDiff, htn]
  · rintro fr σ ⟨f1, f19, hg⟩
    try simp only [if_true]
    rw [List.take_of_length_le (Nat.le_refl _)] at hg
    have hfz := hg.fz (labs_fz σ _)
    have h129 := a201 L R (l := overL l over) (by have := overL_len l over; omega) (overL_smalls hl hl')
    (repeat' first
    | refine w_seq ?_ | refine w_rg ?_ | refine wo_nil ?_ | refine g_skU ?_
    | ((first | apply s_plain | apply s_void | apply s_guard); · simp only [go_sem, Nat.reduceEqDiff, Nat.reduceAdd, Nat.reduceLeDiff]; (first | done | rfl))
    | ((first | apply g_T | apply g_F); · intro hb; simp only [go_sem, Nat.reduceEqDiff, Nat.reduceAdd, Nat.reduceLeDiff, hb]; (first | done | rfl))
    | ((first | apply g_gT | apply g_gF); · intro hb hc; simp only [go_sem, Nat.reduceEqDiff, Nat.reduceAdd, Nat.reduceLeDiff, hb, hc]; (first | done | rfl))
    | refine g_skT ?_ | refine g_skF ?_
    | ((first | apply g_goT | apply g_goF); · simp only [go_sem, Nat.reduceEqDiff, Nat.reduceAdd, Nat.reduceLeDiff]; (first | done | rfl))
    )
    refine s_call (as := [.sl (labs (overL l over))]) (by simp only [go_sem, Nat.reduceEqDiff, Nat.reduceAdd, Nat.reduceLeDiff, hfz]) h129 ?_
    intro σ'
    (repeat' first
    | refine w_seq ?_ | refine w_rg ?_ | refine wo_nil ?_ | refine g_skU ?_
    | ((first | apply s_plain | apply s_void | apply s_guard); · simp only [go_sem, Nat.reduceEqDiff, Nat.reduceAdd, Nat.reduceLeDiff]; (first | done | rfl))
    | ((first | apply g_T | apply g_F); · intro hb; simp only [go_sem, Nat.reduceEqDiff, Nat.reduceAdd, Nat.reduceLeDiff, hb]; (first | done | rfl))
    | ((first | apply g_gT | apply g_gF); · intro hb hc; simp only [go_sem, Nat.reduceEqDiff, Nat.reduceAdd, Nat.reduceLeDiff, hb, hc]; (first | done | rfl))
    | refine g_skT ?_ | refine g_skF ?_
    | ((first | apply g_goT | apply g_goF); · simp only [go_sem, Nat.reduceEqDiff, Nat.reduceAdd, Nat.reduceLeDiff]; (first | done | rfl))
    | (refine w_condT ?_ ?_; · simp only [go_sem, Nat.reduceEqDiff, Nat.reduceAdd, Nat.reduceLeDiff]; (first | done | rfl))
    | (refine w_condF ?_ ?_; · simp only [go_sem, Nat.reduceEqDiff, Nat.reduceAdd, Nat.reduceLeDiff]; (first | done | rfl))
    | refine w_skip ?_ | refine w_exit ?_ | refine w_ret ?_
    )
    exact ⟨.inr rfl, by simp only [go_sem, Nat.reduceEqDiff, Nat.reduceAdd, Nat.reduceLeDiff, retOf, resOf]⟩
  · refine ⟨?_, ?_, ?_⟩
    · simp only [go_sem, Nat.reduceEqDiff, Nat.reduceAdd, Nat.reduceLeDiff]
    · simp only [go_sem, Nat.reduceEqDiff, Nat.reduceAdd, Nat.reduceLeDiff]
    · simp only [go_sem, Nat.reduceEqDiff, Nat.reduceAdd, Nat.reduceLeDiff]
      have h0 : overL [] over = over := by simp [overL]
      rw [h0]
      exact hg.mono (by intro o ho; simp at ho ⊢; omega)
  · simp only [go_sem, Nat.reduceEqDiff, Nat.reduceAdd, Nat.reduceLeDiff]
  · simp only [go_sem, Nat.reduceEqDiff, Nat.reduceAdd, Nat.reduceLeDiff, hll]
end
end Go.Proofs.YtjijlmfhnkipmaaDoorPv
namespace Go.Proofs.YtjijlmfhnkipmaaDoorPv
open Go
set_option linter.unusedSimpArgs false
set_option linter.unusedVariables false
set_option maxHeartbeats 4000000
attribute [local go_sem ↓] e_mv e_pick e_bin e_eqs e_beq e_un e_cvi e_str e_s2b e_b2s e_box e_build e_bsl e_ld e_st e_nck e_mkf e_slcS e_slcL e_fa e_fld e_ia e_iaa e_ix e_ixa e_ext e_lenS e_lenL e_mnmx e_app e_appb e_bbx e_msl e_clr e_call e_callv pa_t pa_c pa_f slcSP_str hiOf_some hiOf_none loOf_some loOf_none set_eq set_ne
attribute [local go_sem] pv pv1 simple frOf_0 frOf_1 frOf_2 frOf_3 frOf_4 frOf_5 ne_eq not_false_eq_true if_true Bool.false_eq_true if_false pbin punary Option.map_some Option.bind_some pick_and pick_or opt_true Bool.true_and Bool.and_self Bool.and_true Bool.true_or Bool.false_or Bool.not_true Bool.not_false callE pcall_eq List.map_cons List.map_nil List.append_nil List.nil_append List.cons_append mapM_cons' mapM_nil' dep_eq fz_sc fz_sl fz_em fz_fn fz_fp fz_agg fz_tu fz_bx fz_ob Nat.lt_irrefl Nat.zero_lt_one Nat.lt_add_one flat clL cl Bool.or_true okc_sc okc_em okc_sl okc_ob okc_bx okc_fp okc_fn okc_agg okc_ifc cells_agg cells_sc cells_sl cells_em cells_ob cells_fn cells_bx cells_fp List.length_cons List.length_nil Nat.zero_add and_self true_and and_true new_m new_c put_m put_c nil_m nil_c deref List.getElem?_cons_zero List.getElem?_cons_succ List.drop_zero List.drop_succ_cons List.take_succ_cons List.take_zero Nat.le_refl false_and and_false decide_true decide_false lenP_em lenP_nil lenP_sl lenP_ob Int.ofNat_zero
set_option maxRecDepth 8000
theorem less_before : ∀ a b : List UInt8, Op.bytesLess a b = bytesBefore a b
  | [], [] => rfl
  | [], _ :: _ => rfl
  | _ :: _, [] => rfl
  | a :: x, b :: y => by simp only [Op.bytesLess, bytesBefore, less_before x y]
theorem lessB_eq (a b : ByteArray) : lessB a b = bytesBefore a.data.toList b.data.toList := by
  unfold lessB; rw [less_before, ByteArray.toList_eq, ByteArray.toList_eq]
theorem lessB_trans {a b c : ByteArray} (h1 : lessB a b = true) (h2 : lessB b c = true) : lessB a c = true := by
  rw [lessB_eq] at *
  exact Go.WideShapes.bytes_trans _ _ _ h1 h2
theorem lessB_irrefl (a : ByteArray) : lessB a a = false := by rw [lessB_eq]; exact Go.WideAt.bytes_irrefl _
theorem lessB_total {a b : ByteArray} (h : a ≠ b) : lessB a b = true ∨ lessB b a = true := by
  rw [lessB_eq, lessB_eq]
  exact Go.WideAt.bytes_total _ _ fun he => h (Go.WideShapes.bytes_inj he)
def Rising (l : List Lab) : Prop := l.Pairwise fun a b => lessB a.1 b.1 = true
def Apart (l : List Lab) : Prop := l.Pairwise fun a b => a.1 ≠ b.1
theorem Rising.apart {l : List Lab} (h : Rising l) : Apart l := h.imp fun hab he => by
  rw [he, lessB_irrefl] at hab
  cases hab
theorem nth_eq {l : List Lab} {i : Nat} (hi : i < l.length) : nth l i = l[i] := by unfold nth; rw [List.getElem?_eq_getElem hi]; rfl
theorem right_iff {l : List Lab} : rightL l = true ↔ (∀ m ∈ l, mayB m = true) ∧ Rising l ∧ l.length ≤ 8 := by
  constructor
  · intro h
    have h8 := right_len h
    refine ⟨fun m hm => ?_, ?_, h8⟩
    · obtain ⟨i, hi⟩ := List.getElem?_of_mem hm
      have hlt := (List.getElem?_eq_some_iff.1 hi).1
      have := rightL_may h hlt
      have e : nth l i = m := by unfold nth; rw [hi]; rfl
      rwa [e] at this
    · unfold rightL at h
      simp only [Bool.and_eq_true, Bool.not_eq_true', decide_eq_false_iff_not] at h
      have hb := found_no h.1
      have step : ∀ j, j + 1 < l.length → lessB (nth l j).1 (nth l (j + 1)).1 = true := by
        intro j hj
        have := hb (j + 1) hj
        unfold badL at this
        simp only [Bool.or_eq_false_iff, Bool.and_eq_false_iff, Bool.not_eq_false', decide_eq_false_iff_not] at this
        rcases this.2 with h2 | h2
        · omega
        · exact h2
      have far : ∀ d i, i + d + 1 < l.length → lessB (nth l i).1 (nth l (i + d + 1)).1 = true := by
        intro d
        induction d with
        | zero => intro i hi; exact step i hi
        | succ d ih => intro i hi; exact lessB_trans (ih i (by omega)) (step (i + d + 1) (by omega))
      unfold Rising
      rw [List.pairwise_iff_getElem]
      intro i j hi hj hij
      have := far (j - i - 1) i (by omega)
      rw [show i + (j - i - 1) + 1 = j from by omega, nth_eq hi, nth_eq hj] at this
      exact this
  · rintro ⟨h1, h2, h3⟩
    unfold rightL
    simp only [Bool.and_eq_true, Bool.not_eq_true', decide_eq_false_iff_not, decide_eq_true_eq]
    refine ⟨?_, by omega⟩
    have : found (badL l) l.length = -1 := by
      refine found_none fun j hj => ?_
      unfold badL
      rw [nth_eq hj, h1 _ (List.getElem_mem hj)]
      simp only [Bool.not_true, Bool.false_or, Bool.and_eq_false_iff, decide_eq_false_iff_not, Bool.not_eq_false']
      cases j with
      | zero => exact .inl (by omega)
      | succ j =>
        right
        have := List.pairwise_iff_getElem.1 h2 j (j + 1) (by omega) hj (by omega)
        rw [show j + 1 - 1 = j from rfl, nth_eq (show j < l.length by omega)]
        exact this
    rw [this]
    omega
theorem insAt_perm (m : Lab) (a : List Lab) : ∀ k, k ≤ a.length → (insAt m a k).Perm (m :: a)
  | 0, _ => .refl _
  | k + 1, h => by
    simp only [insAt]
    split
    · exact insAt_perm m a k (by omega)
    · refine List.perm_middle.trans ?_
      rw [List.take_append_drop]
theorem insR_perm (a : List Lab) (m : Lab) : (insR a m).Perm (m :: a) := insAt_perm m a a.length (Nat.le_refl _)
theorem foldl_perm : ∀ (l a : List Lab), (l.foldl insR a).Perm (a ++ l)
  | [], a => by simp
  | m :: l, a => by
    refine (foldl_perm l (insR a m)).trans ?_
    refine ((insR_perm a m).append_right l).trans ?_
    simpa using (List.perm_middle (a := m) (l₁ := a) (l₂ := l)).symm
theorem sorted_perm (l : List Lab) : (sortedL l).Perm l := by simpa [sortedL] using foldl_perm l []
theorem insAt_rising {m : Lab} {a : List Lab} (ha : Rising a) (hne : ∀ x ∈ a, x.1 ≠ m.1) : ∀ k, k ≤ a.length → (∀ i (h : i < a.length), k ≤ i → lessB m.1 a[i].1 = true) → Rising (insAt m a k)
  | 0, _, hg => by
    unfold Rising insAt
    rw [List.pairwise_cons]
    refine ⟨fun x hx => ?_, ha⟩
    obtain ⟨i, hi, rfl⟩ := List.getElem_of_mem hx
    exact hg i hi (Nat.zero_le _)
  | k + 1, hk, hg => by
    unfold insAt
    split
    · rename_i hl
      refine insAt_rising ha hne k (by omega) fun i hi hki => ?_
      by_cases hik : i = k
      · subst hik
        rw [nth_eq hi] at hl
        exact hl
      · exact hg i hi (by omega)
    · rename_i hl
      have hlt : k < a.length := by omega
      rw [nth_eq hlt] at hl
      have hkm : lessB a[k].1 m.1 = true := by
        rcases lessB_total (hne _ (List.getElem_mem hlt)) with h | h
        · exact h
        · exact absurd h hl
      have hle : ∀ i (h : i < a.length), i ≤ k → lessB a[i].1 m.1 = true := by
        intro i hi hik
        by_cases he : i = k
        · subst he; exact hkm
        · exact lessB_trans (List.pairwise_iff_getElem.1 ha i k hi hlt (by omega)) hkm
      unfold Rising
      rw [List.pairwise_append]
      refine ⟨ha.sublist (List.take_sublist _ _), ?_, ?_⟩
      · rw [List.pairwise_cons]
        refine ⟨fun x hx => ?_, ha.sublist (List.drop_sublist _ _)⟩
        obtain ⟨i, hi, rfl⟩ := List.getElem_of_mem hx
        rw [List.getElem_drop]
        exact hg _ _ (by omega)
      · intro x hx y hy
        obtain ⟨i, hi, rfl⟩ := List.getElem_of_mem hx
        have hi' : i < k + 1 := by rw [List.length_take] at hi; omega
        rw [List.getElem_take]
        have hxm := hle i (by omega) (by omega)
        rcases List.mem_cons.1 hy with rfl | hy
        · exact hxm
        · obtain ⟨j, hj, rfl⟩ := List.getElem_of_mem hy
          rw [List.getElem_drop]
          exact lessB_trans hxm (hg _ _ (by omega))
theorem foldl_rising : ∀ (l a : List Lab), Rising a → Apart (a ++ l) → Rising (l.foldl insR a)
  | [], a, ha, _ => ha
  | m :: l, a, ha, hp => by
    have hperm : (a ++ m :: l).Perm (insR a m ++ l) := by
      refine List.perm_middle.trans ?_
      exact ((insR_perm a m).symm.append_right l)
    have hp' : Apart (insR a m ++ l) := (hperm.pairwise_iff (fun h => Ne.symm h)).1 hp
    refine foldl_rising l (insR a m) ?_ hp'
    refine insAt_rising ha (fun x hx => ?_) a.length (Nat.le_refl _) (fun i hi h => by omega)
    unfold Apart at hp
    rw [List.pairwise_append] at hp
    exact hp.2.2 x hx m (by simp)
theorem sorted_rising {l : List Lab} (h : Apart l) : Rising (sortedL l) := foldl_rising l [] List.Pairwise.nil (by simpa using h)
theorem sorted_right {l : List Lab} (h1 : ∀ m ∈ l, mayB m = true) (h2 : Apart l) (h3 : l.length ≤ 8) : rightL (sortedL l) = true :=
  right_iff.2 ⟨fun m hm => h1 m (mem_sorted hm), sorted_rising h2, by rw [sortedL_len]; exact h3⟩
theorem may_value {m : Lab} (h : mayB m = true) : (m.2.toList == (⟨#[]⟩ : ByteArray).toList) = false := by
  unfold mayB valueB filled at h
  simp only [Bool.and_eq_true, Bool.not_eq_true'] at h
  exact h.2.1.1
theorem miss_apart {over : List Lab} (hr : ∀ m ∈ over, mayB m = true) {m x : Lab} (hm : missB over m = true) (hx : x ∈ over) : x.1 ≠ m.1 := by
  intro he
  obtain ⟨i, hi, rfl⟩ := List.getElem_of_mem hx
  have his : isN over m.1 i = true := by unfold isN; rw [nth_eq hi, he]; simp
  obtain ⟨j, h1, h2, _⟩ := found_is hi his
  have hg : getB over m.1 = (nth over j).2 := by
    unfold getB
    rw [h1, if_neg (by omega)]
    rfl
  unfold missB at hm
  rw [hg, nth_eq h2, may_value (hr _ (List.getElem_mem h2))] at hm
  cases hm
theorem over_apart {l over : List Lab} (h1 : rightL l = true) (h2 : rightL over = true) : Apart (overL l over) := by
  obtain ⟨a1, a2, a3⟩ := right_iff.1 h1
  obtain ⟨b1, b2, b3⟩ := right_iff.1 h2
  unfold Apart overL
  rw [List.pairwise_append]
  refine ⟨b2.apart, a2.apart.sublist List.filter_sublist, fun x hx y hy => ?_⟩
  exact miss_apart b1 (List.mem_filter.1 hy).2 hx
theorem over_may {l over : List Lab} (h1 : rightL l = true) (h2 : rightL over = true) : ∀ m ∈ overL l over, mayB m = true := by
  intro m hm
  simp only [overL, List.mem_append, List.mem_filter] at hm
  rcases hm with hm | hm
  · exact (right_iff.1 h2).1 m hm
  · exact (right_iff.1 h1).1 m hm.1
theorem wrong_none {l : List Lab} (h : ∀ m ∈ l, mayB m = true) : wrongB l = false := by
  unfold wrongB
  rw [found_none fun j hj => by rw [nth_eq hj, h _ (List.getElem_mem hj)]; rfl]
  rfl
/-- With, of sets that may be. -/
theorem withL_right {l over : List Lab} (h1 : rightL l = true) (h2 : rightL over = true) : withL l over = if (overL l over).length > 8 then ([], 2) else (sortedL (overL l over), 0) := by
  unfold withL newL
  rw [h1, h2, wrong_none (over_may h1 h2)]
  simp only [Bool.not_true, Bool.or_self, Bool.false_eq_true, if_false]
  by_cases h : (overL l over).length > 8
  · rw [if_pos (by omega), if_pos h]
  · rw [if_neg (by omega), if_neg h, sorted_right (over_may h1 h2) (over_apart h1 h2) (by omega)]
    rfl
end Go.Proofs.YtjijlmfhnkipmaaDoorPv
namespace Go.Proofs.YtjijlmfhnkipmaaDoorPv
open Go
set_option linter.unusedSimpArgs false
set_option linter.unusedVariables false
set_option maxHeartbeats 4000000
attribute [local go_sem ↓] e_mv e_pick e_bin e_eqs e_beq e_un e_cvi e_str e_s2b e_b2s e_box e_build e_bsl e_ld e_st e_nck e_mkf e_slcS e_slcL e_fa e_fld e_ia e_iaa e_ix e_ixa e_ext e_lenS e_lenL e_mnmx e_app e_appb e_bbx e_msl e_clr e_call e_callv pa_t pa_c pa_f slcSP_str hiOf_some hiOf_none loOf_some loOf_none set_eq set_ne
attribute [local go_sem] pv pv1 simple frOf_0 frOf_1 frOf_2 frOf_3 frOf_4 frOf_5 ne_eq not_false_eq_true if_true Bool.false_eq_true if_false pbin punary Option.map_some Option.bind_some pick_and pick_or opt_true Bool.true_and Bool.and_self Bool.and_true Bool.true_or Bool.false_or Bool.not_true Bool.not_false callE pcall_eq List.map_cons List.map_nil List.append_nil List.nil_append List.cons_append mapM_cons' mapM_nil' dep_eq fz_sc fz_sl fz_em fz_fn fz_fp fz_agg fz_tu fz_bx fz_ob Nat.lt_irrefl Nat.zero_lt_one Nat.lt_add_one flat clL cl Bool.or_true okc_sc okc_em okc_sl okc_ob okc_bx okc_fp okc_fn okc_agg okc_ifc cells_agg cells_sc cells_sl cells_em cells_ob cells_fn cells_bx cells_fp List.length_cons List.length_nil Nat.zero_add and_self true_and and_true new_m new_c put_m put_c nil_m nil_c deref List.getElem?_cons_zero List.getElem?_cons_succ List.drop_zero List.drop_succ_cons List.take_succ_cons List.take_zero Nat.le_refl false_and and_false decide_true decide_false lenP_em lenP_nil lenP_sl lenP_ob Int.ofNat_zero
set_option maxRecDepth 8000
/-- (transhipment/label.mark).text -/
def d176 : Def := (.code 1 [.tmp 2] (.seq (.rg false [⟨.some 1, .none, .box (.t 0)⟩, ⟨.some 2, .none, .mv (.c (.string ⟨#[]⟩))⟩]) (.seq (.rg true [⟨.some 3, .none, .fa 0 (.t 1)⟩, ⟨.some 4, .none, .ld .none (.t 3)⟩, ⟨.some 5, .none, .bin .add (.t 4) (.c (.string ⟨#[61, 34]⟩))⟩, ⟨.some 6, .none, .fa 1 (.t 1)⟩, ⟨.some 7, .none, .ld .none (.t 6)⟩, ⟨.some 8, .none, .call 215 .strict [.t 7, .c (.string ⟨#[92]⟩), .c (.string ⟨#[92, 92]⟩)]⟩, ⟨.some 9, .none, .call 215 .strict [.t 8, .c (.string ⟨#[34]⟩), .c (.string ⟨#[92, 34]⟩)]⟩, ⟨.some 10, .none, .bin .add (.t 5) (.t 9)⟩, ⟨.some 11, .none, .bin .add (.t 10) (.c (.string ⟨#[34]⟩))⟩, ⟨.some 2, .none, .mv (.t 11)⟩]) .ret)))
/-- transhipment/label.Text -/
def d202 : Def := (.code 1 [.tmp 2, .tmp 3] (.seq (.rg false [⟨.some 2, .none, .mv (.c (.string ⟨#[]⟩))⟩, ⟨.some 3, .none, .mv (.c (.int .i64 0))⟩]) (.seq (.seq (.rg false [⟨.some 7, .none, .mv (.t 0)⟩, ⟨.some 8, .none, .call 113 .pure [.t 7]⟩, ⟨.some 9, .none, .un .not (.t 8)⟩]) (.cond (.t 9) (.seq (.rg false [⟨.some 2, .none, .mv (.c (.string ⟨#[]⟩))⟩, ⟨.some 3, .none, .mv (.c (.int .i64 1))⟩]) .ret) .skip)) (.seq (.rg false [⟨.some 4, .none, .mv (.c (.slice .none 0 0))⟩]) (.seq (.seq (.rg false [⟨.some 10, .none, .mv (.t 0)⟩, ⟨.some 11, .none, .call 134 .opn [.t 10]⟩, ⟨.some 12, .none, .lenL (.t 11)⟩, ⟨.some 13, .none, .mv (.c (.int .i64 0))⟩]) (.block 0 (.loop (.seq (.rg false [⟨.some 14, .none, .bin .lss (.t 13) (.t 12)⟩]) (.seq (.cond (.t 14) .skip (.exit 0)) (.seq (.block 1 (.seq (.rg false [⟨.some 15, .none, .ia 2 (.t 11) (.t 13)⟩, ⟨.some 16, .none, .ld (.some 2) (.t 15)⟩, ⟨.some 6, .none, .box (.c (.agg #[.string ⟨#[]⟩, .string ⟨#[]⟩]))⟩, ⟨.none, .none, .st 2 (.t 6) (.t 16)⟩]) (.rg false [⟨.some 17, .none, .mv (.t 4)⟩, ⟨.some 18, .none, .ld (.some 2) (.t 6)⟩, ⟨.some 19, .none, .call 176 .pure [.t 18]⟩, ⟨.some 20, .none, .bsl 1 (.string ⟨#[]⟩) 1 [(0, .t 19)]⟩, ⟨.some 21, .none, .app 1 16 false (.t 17) (.t 20)⟩, ⟨.some 4, .none, .mv (.t 21)⟩]))) (.rg false [⟨.some 22, .none, .bin .add (.t 13) (.c (.int .i64 1))⟩, ⟨.some 13, .none, .mv (.t 22)⟩]))))))) (.seq (.rg false [⟨.some 23, .none, .mv (.t 4)⟩, ⟨.some 24, .none, .call 23 .pure [.t 23, .c (.string ⟨#[44]⟩)]⟩, ⟨.some 25, .none, .bin .add (.c (.string ⟨#[123]⟩)) (.t 24)⟩, ⟨.some 26, .none, .bin .add (.t 25) (.c (.string ⟨#[125]⟩))⟩, ⟨.some 2, .none, .mv (.t 26)⟩, ⟨.some 3, .none, .mv (.c (.int .i64 0))⟩]) .ret))))))
/-- transhipment/transhipmentref03.Text -/
def d211 : Def := (.code 1 [.tmp 2] (.seq (.rg false [⟨.some 2, .none, .mv (.c (.string ⟨#[]⟩))⟩]) (.seq (.rg false [⟨.some 7, .none, .bsl 1 (.int .u8 0) 1 [(0, .c (.int .u8 123))]⟩, ⟨.some 3, .none, .mv (.t 7)⟩]) (.seq (.seq (.rg false [⟨.some 8, .none, .mv (.t 0)⟩, ⟨.some 9, .none, .lenL (.t 8)⟩, ⟨.some 10, .none, .mv (.c (.int .i64 0))⟩]) (.block 0 (.loop (.seq (.rg false [⟨.some 11, .none, .bin .lss (.t 10) (.t 9)⟩]) (.seq (.cond (.t 11) .skip (.exit 0)) (.seq (.block 1 (.seq (.rg false [⟨.some 12, .none, .mv (.t 10)⟩, ⟨.some 13, .none, .ia 2 (.t 8) (.t 10)⟩, ⟨.some 14, .none, .ld (.some 2) (.t 13)⟩, ⟨.some 5, .none, .box (.c (.agg #[.string ⟨#[]⟩, .string ⟨#[]⟩]))⟩, ⟨.some 4, .none, .mv (.t 12)⟩, ⟨.none, .none, .st 2 (.t 5) (.t 14)⟩]) (.seq (.seq (.rg false [⟨.some 15, .none, .mv (.t 4)⟩, ⟨.some 16, .none, .bin .gtr (.t 15) (.c (.int .i64 0))⟩]) (.cond (.t 16) (.rg false [⟨.some 17, .none, .mv (.t 3)⟩, ⟨.some 18, .none, .bsl 1 (.int .u8 0) 1 [(0, .c (.int .u8 44))]⟩, ⟨.some 19, .none, .app 1 1 false (.t 17) (.t 18)⟩, ⟨.some 3, .none, .mv (.t 19)⟩]) .skip)) (.seq (.rg false [⟨.some 20, .none, .mv (.t 3)⟩, ⟨.some 21, .none, .fa 0 (.t 5)⟩, ⟨.some 22, .none, .ld .none (.t 21)⟩, ⟨.some 23, .none, .s2b (.t 22)⟩, ⟨.some 24, .none, .app 1 1 false (.t 20) (.t 23)⟩, ⟨.some 3, .none, .mv (.t 24)⟩]) (.seq (.rg false [⟨.some 25, .none, .mv (.t 3)⟩, ⟨.some 26, .none, .bsl 1 (.int .u8 0) 2 [(0, .c (.int .u8 61)), (1, .c (.int .u8 34))]⟩, ⟨.some 27, .none, .app 1 1 false (.t 25) (.t 26)⟩, ⟨.some 3, .none, .mv (.t 27)⟩]) (.seq (.seq (.rg false [⟨.some 6, .none, .mv (.c (.int .i64 0))⟩]) (.block 2 (.loop (.seq (.seq (.rg false [⟨.some 28, .none, .mv (.t 6)⟩, ⟨.some 29, .none, .fa 1 (.t 5)⟩, ⟨.some 30, .none, .ld .none (.t 29)⟩, ⟨.some 31, .none, .lenS (.t 30)⟩, ⟨.some 32, .none, .bin .lss (.t 28) (.t 31)⟩]) (.cond (.t 32) .skip (.exit 2))) (.seq (.block 3 (.seq (.seq (.rg false [⟨.some 35, .none, .fa 1 (.t 5)⟩, ⟨.some 36, .none, .ld .none (.t 35)⟩, ⟨.some 37, .none, .mv (.t 6)⟩, ⟨.some 38, .none, .ix (.t 36) (.t 37)⟩, ⟨.some 39, .none, .bin .eql (.t 38) (.c (.int .u8 34))⟩, ⟨.some 40, .none, .mv (.t 39)⟩, ⟨.some 41, .some (40, false), .fa 1 (.t 5)⟩, ⟨.some 42, .some (40, false), .ld .none (.t 41)⟩, ⟨.some 43, .some (40, false), .mv (.t 6)⟩, ⟨.some 44, .some (40, false), .ix (.t 42) (.t 43)⟩, ⟨.some 45, .some (40, false), .bin .eql (.t 44) (.c (.int .u8 92))⟩, ⟨.some 46, .none, .pick (.t 40) (.c (.bool true)) (.t 45)⟩]) (.cond (.t 46) (.rg false [⟨.some 47, .none, .mv (.t 3)⟩, ⟨.some 48, .none, .bsl 1 (.int .u8 0) 1 [(0, .c (.int .u8 92))]⟩, ⟨.some 49, .none, .app 1 1 false (.t 47) (.t 48)⟩, ⟨.some 3, .none, .mv (.t 49)⟩]) .skip)) (.rg false [⟨.some 50, .none, .mv (.t 3)⟩, ⟨.some 51, .none, .fa 1 (.t 5)⟩, ⟨.some 52, .none, .ld .none (.t 51)⟩, ⟨.some 53, .none, .mv (.t 6)⟩, ⟨.some 54, .none, .ix (.t 52) (.t 53)⟩, ⟨.some 55, .none, .bsl 1 (.int .u8 0) 1 [(0, .t 54)]⟩, ⟨.some 56, .none, .app 1 1 false (.t 50) (.t 55)⟩, ⟨.some 3, .none, .mv (.t 56)⟩]))) (.rg false [⟨.some 33, .none, .mv (.t 6)⟩, ⟨.some 34, .none, .bin .add (.t 33) (.c (.int .i64 1))⟩, ⟨.some 6, .none, .mv (.t 34)⟩])))))) (.rg false [⟨.some 57, .none, .mv (.t 3)⟩, ⟨.some 58, .none, .bsl 1 (.int .u8 0) 1 [(0, .c (.int .u8 34))]⟩, ⟨.some 59, .none, .app 1 1 false (.t 57) (.t 58)⟩, ⟨.some 3, .none, .mv (.t 59)⟩]))))))) (.rg false [⟨.some 60, .none, .bin .add (.t 10) (.c (.int .i64 1))⟩, ⟨.some 10, .none, .mv (.t 60)⟩]))))))) (.seq (.rg false [⟨.some 61, .none, .mv (.t 3)⟩, ⟨.some 62, .none, .bsl 1 (.int .u8 0) 1 [(0, .c (.int .u8 125))]⟩, ⟨.some 63, .none, .app 1 1 false (.t 61) (.t 62)⟩, ⟨.some 3, .none, .mv (.t 63)⟩]) (.seq (.rg false [⟨.some 64, .none, .mv (.t 3)⟩, ⟨.some 65, .none, .b2s (.t 64)⟩, ⟨.some 2, .none, .mv (.t 65)⟩]) .ret))))))
def lu : List (Nat × Def) := [(176, d176), (202, d202), (211, d211), (23, .prim joinF), (215, .prim replF)]
section
variable {env : Nat → Option Def} {fr : Fr} {σ σ' : St} {K : Fr → St → Prop} {Q : X → Fr → St → Prop}
/-! ### a byte that is replaced -/
def rep1 (c : UInt8) (new : List UInt8) (s : List UInt8) : List UInt8 := s.flatMap fun b => if b = c then new else [b]
theorem idx_none {c : UInt8} {new : List UInt8} : ∀ {s : List UInt8}, Lib.index s [c] = -1 → rep1 c new s = s
  | [], _ => rfl
  | b :: l, h => by
    unfold Lib.index at h
    by_cases hb : b = c
    · subst hb; simp at h
    · have hp : [c].isPrefixOf (b :: l) = false := by simp [List.isPrefixOf, Ne.symm hb]
      rw [hp] at h
      simp only [Bool.false_eq_true, if_false] at h
      have h2 : Lib.index l [c] = -1 := by
        split at h
        · rename_i h3; simpa using h3
        · have := Lib.index_ge l [c]; rename_i h3; omega
      have := idx_none (new := new) h2
      unfold rep1 at this ⊢
      simp [hb, this]
theorem idx_some {c : UInt8} {new : List UInt8} : ∀ {s : List UInt8} {i : Nat}, Lib.index s [c] = i → s.take i ++ new ++ rep1 c new (s.drop (i + 1)) = rep1 c new s
  | [], i, h => by simp [Lib.index] at h
  | b :: l, i, h => by
    unfold Lib.index at h
    by_cases hb : b = c
    · subst hb
      have hp : [b].isPrefixOf (b :: l) = true := by simp [List.isPrefixOf]
      rw [hp, if_pos rfl] at h
      have : i = 0 := by omega
      subst this
      simp [rep1]
    · have hp : [c].isPrefixOf (b :: l) = false := by simp [List.isPrefixOf, Ne.symm hb]
      rw [hp] at h
      simp only [Bool.false_eq_true, if_false] at h
      split at h
      · omega
      · rename_i h3
        have hge := Lib.index_ge l [c]
        have hne : Lib.index l [c] ≠ -1 := by simpa using h3
        obtain ⟨j, rfl⟩ : ∃ j, i = j + 1 := ⟨i - 1, by omega⟩
        have := idx_some (c := c) (new := new) (s := l) (i := j) (by omega)
        unfold rep1 at this ⊢
        simp only [List.take_succ_cons, List.drop_succ_cons, List.flatMap_cons, hb, if_false, List.cons_append, List.nil_append]
        rw [← this]
theorem replaceK_one {c : UInt8} {new : List UInt8} : ∀ (n : Nat) (s : List UInt8), s.length < n → Lib.replaceK [c] new (Lib.countFrom [c] n s) s = rep1 c new s
  | 0, s, h => by omega
  | n + 1, s, h => by
    unfold Lib.countFrom
    by_cases hi : Lib.index s [c] = -1
    · rw [if_pos (by simpa using hi)]
      exact (idx_none hi).symm
    · have hge := Lib.index_ge s [c]
      obtain ⟨i, hi'⟩ : ∃ i : Nat, Lib.index s [c] = i := ⟨(Lib.index s [c]).toNat, by omega⟩
      rw [if_neg (by simpa using hi), Nat.add_comm, Lib.replaceK_hit [c] new _ s i hi', hi', Int.toNat_natCast]
      have hroom := Lib.index_room s [c] (by omega)
      have hlen : (s.drop (i + [c].length)).length < n := by
        simp only [List.length_drop, List.length_cons, List.length_nil] at hroom ⊢
        omega
      rw [replaceK_one n _ hlen]
      exact idx_some hi'
theorem replaceAll_one {c : UInt8} {new : List UInt8} (hne : new ≠ [c]) (s : List UInt8) : Lib.replaceAll s [c] new = rep1 c new s := by
  unfold Lib.replaceAll Lib.replace
  have h1 : ([c] == new) = false := by simpa using Ne.symm hne
  rw [h1]
  simp only [Bool.false_eq_true, if_false]
  have h2 : Lib.replaceNum s [c] (-1) = Lib.count s [c] := by unfold Lib.replaceNum; rw [if_pos (.inl (by decide))]
  rw [h2]
  exact replaceK_one _ s (by omega)
def esc (s : List UInt8) : List UInt8 := s.flatMap fun b => if b = 34 ∨ b = 92 then [92, b] else [b]
theorem esc_two (s : List UInt8) : rep1 34 [92, 34] (rep1 92 [92, 92] s) = esc s := by
  unfold rep1 esc
  rw [List.flatMap_assoc]
  congr 1
  funext b
  by_cases h1 : b = 92
  · subst h1; decide
  · by_cases h2 : b = 34
    · subst h2; decide
    · simp [h1, h2]
theorem rep1_len {c : UInt8} {new : List UInt8} (hn : new.length ≤ 2) (s : List UInt8) : (rep1 c new s).length ≤ 2 * s.length := by
  unfold rep1
  induction s with
  | nil => simp
  | cons b l ih =>
    simp only [List.flatMap_cons, List.length_append, List.length_cons]
    split
    · omega
    · simp only [List.length_cons, List.length_nil]; omega
theorem esc_len (s : List UInt8) : (esc s).length ≤ 2 * s.length := by
  unfold esc
  induction s with
  | nil => simp
  | cons b l ih =>
    simp only [List.flatMap_cons, List.length_append, List.length_cons]
    split
    · simp only [List.length_cons, List.length_nil]; omega
    · simp only [List.length_cons, List.length_nil]; omega
def escS (s : ByteArray) : ByteArray := ⟨(esc s.data.toList).toArray⟩
theorem a215 (U : Has lu env) {s old new : ByteArray} (h : s.size < 4294967281 ∧ 1 ≤ old.size ∧ s.size + Lib.countB s old * new.size ≤ 140737488355328) :
    AV env 215 [.sc (.string s), .sc (.string old), .sc (.string new)] = some (.sc (.string ⟨(Lib.replaceAll s.data.toList old.data.toList new.data.toList).toArray⟩)) := by
  have hp := U (215, .prim replF) (by simp [lu])
  refine AV_of (σ := St.nil) (r := .sc (.string ⟨(Lib.replaceAll s.data.toList old.data.toList new.data.toList).toArray⟩)) (EV_of (n := 1) ?_) rfl
  simp only [evF, hp, replF]
  rw [if_pos h]
theorem a215a (U : Has lu env) {s : ByteArray} (hs : s.size ≤ 1000) : AV env 215 [.sc (.string s), .sc (.string ⟨#[92]⟩), .sc (.string ⟨#[92, 92]⟩)] = some (.sc (.string ⟨(rep1 92 [92, 92] s.data.toList).toArray⟩)) := by
  have hc := Lib.countB_le ⟨#[92]⟩ (by decide) s.size s (Nat.le_refl _)
  have h := a215 U (s := s) (old := ⟨#[92]⟩) (new := ⟨#[92, 92]⟩) ⟨by omega, by decide, by
    have : (⟨#[92, 92]⟩ : ByteArray).size = 2 := rfl
    rw [this]; omega⟩
  rw [h]
  have : Lib.replaceAll s.data.toList (⟨#[92]⟩ : ByteArray).data.toList (⟨#[92, 92]⟩ : ByteArray).data.toList = rep1 92 [92, 92] s.data.toList := replaceAll_one (by decide) _
  rw [this]
theorem a215b (U : Has lu env) {s : ByteArray} (hs : s.size ≤ 1000) : AV env 215 [.sc (.string s), .sc (.string ⟨#[34]⟩), .sc (.string ⟨#[92, 34]⟩)] = some (.sc (.string ⟨(rep1 34 [92, 34] s.data.toList).toArray⟩)) := by
  have hc := Lib.countB_le ⟨#[34]⟩ (by decide) s.size s (Nat.le_refl _)
  have h := a215 U (s := s) (old := ⟨#[34]⟩) (new := ⟨#[92, 34]⟩) ⟨by omega, by decide, by
    have : (⟨#[92, 34]⟩ : ByteArray).size = 2 := rfl
    rw [this]; omega⟩
  rw [h]
  have : Lib.replaceAll s.data.toList (⟨#[34]⟩ : ByteArray).data.toList (⟨#[92, 34]⟩ : ByteArray).data.toList = rep1 34 [92, 34] s.data.toList := replaceAll_one (by decide) _
  rw [this]
/-- A label, as it stands in a text. -/
def markS (m : Lab) : ByteArray := ((m.1 ++ ⟨#[61, 34]⟩) ++ escS m.2) ++ ⟨#[34]⟩
theorem a176 (U : Has lu env) {m : Lab} (h1 : m.1.size ≤ 64) (h2 : m.2.size ≤ 64) : AV env 176 [lab m] = some (.sc (.string (markS m))) := by
  have ha := a215a U (s := m.2) (by omega)
  have l1 := rep1_len (c := 92) (new := [92, 92]) (by decide) m.2.data.toList
  have l0 : m.2.data.toList.length = m.2.size := by simp
  have s1 : (⟨(rep1 92 [92, 92] m.2.data.toList).toArray⟩ : ByteArray).size = (rep1 92 [92, 92] m.2.data.toList).length := by simp [ByteArray.size]
  have hb := a215b U (s := ⟨(rep1 92 [92, 92] m.2.data.toList).toArray⟩) (by omega)
  have e1 : (⟨(rep1 34 [92, 34] (⟨(rep1 92 [92, 92] m.2.data.toList).toArray⟩ : ByteArray).data.toList).toArray⟩ : ByteArray) = escS m.2 := by
    unfold escS
    rw [← esc_two]
  rw [e1] at hb
  have l2 := esc_len m.2.data.toList
  have s2 : (escS m.2).size = (esc m.2.data.toList).length := by simp [escS, ByteArray.size]
  have q1 : m.1.size + (⟨#[61, 34]⟩ : ByteArray).size ≤ 9223372036854775807 := by
    have : (⟨#[61, 34]⟩ : ByteArray).size = 2 := rfl
    omega
  have q2 : (m.1 ++ ⟨#[61, 34]⟩).size + (escS m.2).size ≤ 9223372036854775807 := by
    rw [ByteArray.size_append]
    have : (⟨#[61, 34]⟩ : ByteArray).size = 2 := rfl
    omega
  have q3 : ((m.1 ++ ⟨#[61, 34]⟩) ++ escS m.2).size + (⟨#[34]⟩ : ByteArray).size ≤ 9223372036854775807 := by
    rw [ByteArray.size_append, ByteArray.size_append]
    have : (⟨#[61, 34]⟩ : ByteArray).size = 2 := rfl
    have : (⟨#[34]⟩ : ByteArray).size = 1 := rfl
    omega
  refine AV_wp (U (176, d176) (by simp [lu])) rfl ?_
  unfold lab
  (repeat' first
    | refine w_seq ?_ | refine w_rg ?_ | refine wo_nil ?_ | refine g_skU ?_
    | ((first | apply s_plain | apply s_void | apply s_guard); · simp only [go_sem, Nat.reduceEqDiff, Nat.reduceAdd, Nat.reduceLeDiff, ha, hb, q1, q2, q3]; (first | done | rfl))
    | ((first | apply g_T | apply g_F); · intro hb; simp only [go_sem, Nat.reduceEqDiff, Nat.reduceAdd, Nat.reduceLeDiff, ha, hb, q1, q2, q3, hb]; (first | done | rfl))
    | ((first | apply g_gT | apply g_gF); · intro hb hc; simp only [go_sem, Nat.reduceEqDiff, Nat.reduceAdd, Nat.reduceLeDiff, ha, hb, q1, q2, q3, hb, hc]; (first | done | rfl))
    | refine g_skT ?_ | refine g_skF ?_
    | ((first | apply g_goT | apply g_goF); · simp only [go_sem, Nat.reduceEqDiff, Nat.reduceAdd, Nat.reduceLeDiff, ha, hb, q1, q2, q3]; (first | done | rfl))
    | (refine w_condT ?_ ?_; · simp only [go_sem, Nat.reduceEqDiff, Nat.reduceAdd, Nat.reduceLeDiff, ha, hb, q1, q2, q3]; (first | done | rfl))
    | (refine w_condF ?_ ?_; · simp only [go_sem, Nat.reduceEqDiff, Nat.reduceAdd, Nat.reduceLeDiff, ha, hb, q1, q2, q3]; (first | done | rfl))
    | refine w_skip ?_ | refine w_exit ?_ | refine w_ret ?_
    )
  exact ⟨.inr rfl, by simp only [go_sem, Nat.reduceEqDiff, Nat.reduceAdd, Nat.reduceLeDiff, retOf, resOf]; first | done | rfl⟩
def partsP (l : List Lab) : List PV := l.map fun m => .sc (.string (markS m))
def bodyS (l : List Lab) : ByteArray := ⟨(Lib.join (l.map fun m => (markS m).data.toList) [44]).toArray⟩
def textS (l : List Lab) : ByteArray := (⟨#[123]⟩ ++ bodyS l) ++ ⟨#[125]⟩
theorem parts_fz (σ : St) (l : List Lab) : (partsP l).mapM (fz σ 11) = some (partsP l) := by
  induction l with
  | nil => rfl
  | cons m r ih =>
    show List.mapM (fz σ 11) (.sc (.string (markS m)) :: partsP r) = _
    rw [mapM_cons', ih]
    rfl
theorem parts_str (l : List Lab) : (partsP l).mapM strOf = some (l.map markS) := by
  induction l with
  | nil => rfl
  | cons m r ih =>
    show List.mapM strOf (.sc (.string (markS m)) :: partsP r) = _
    rw [mapM_cons', ih]
    rfl
theorem mark_size {m : Lab} (h1 : m.1.size ≤ 64) (h2 : m.2.size ≤ 64) : (markS m).data.toList.length ≤ 200 := by
  have l2 := esc_len m.2.data.toList
  have l0 : m.2.data.toList.length = m.2.size := by simp
  have s2 : (escS m.2).size = (esc m.2.data.toList).length := by simp [escS, ByteArray.size]
  have : (markS m).data.toList.length = (markS m).size := by simp
  rw [this]
  unfold markS
  rw [ByteArray.size_append, ByteArray.size_append, ByteArray.size_append]
  have : (⟨#[61, 34]⟩ : ByteArray).size = 2 := rfl
  have : (⟨#[34]⟩ : ByteArray).size = 1 := rfl
  omega
theorem join_len (sep : List UInt8) : ∀ (xs : List (List UInt8)), (∀ x ∈ xs, x.length ≤ 200) → sep.length ≤ 1 → (Lib.join xs sep).length ≤ 201 * xs.length
  | [], _, _ => by simp [Lib.join]
  | x :: r, h, hs => by
    rw [Lib.join_cons]
    have hx := h x (by simp)
    have : ∀ r : List (List UInt8), (∀ x ∈ r, x.length ≤ 200) → (Lib.joinTail sep r).length ≤ 201 * r.length := by
      intro r
      induction r with
      | nil => intro _; simp [Lib.joinTail]
      | cons y r ih =>
        intro h
        have hy := h y (by simp)
        have := ih fun x hx => h x (by simp [hx])
        unfold Lib.joinTail at this ⊢
        simp only [List.map_cons, List.flatten_cons, List.length_append, List.length_cons]
        omega
    have := this r fun x hx => h x (by simp [hx])
    simp only [List.length_append, List.length_cons]
    omega
theorem a23 (U : Has lu env) {l : List Lab} (h1 : ∀ m ∈ l, m.1.size ≤ 64 ∧ m.2.size ≤ 64) (h8 : l.length ≤ 8) : AV env 23 [.sl (partsP l), .sc (.string ⟨#[44]⟩)] = some (.sc (.string (bodyS l))) := by
  have hp := U (23, .prim joinF) (by simp [lu])
  refine AV_of (σ := St.nil) (r := .sc (.string (bodyS l))) (EV_of (n := 1) ?_) rfl
  simp only [evF, hp, joinF, parts_str, Option.bind_some]
  have hm : (l.map markS).map (·.data.toList) = l.map fun m => (markS m).data.toList := by simp
  have hj := join_len [44] (l.map fun m => (markS m).data.toList) (fun x hx => by
    obtain ⟨m, hm, rfl⟩ := List.mem_map.1 hx
    exact mark_size (h1 m hm).1 (h1 m hm).2) (by simp)
  rw [List.length_map] at hj
  rw [hm, if_pos ⟨by rw [List.length_map]; omega, by
    show (Lib.join _ [44]).length ≤ _
    omega⟩]
  rfl
theorem may_size {m : Lab} (h : mayB m = true) : m.1.size ≤ 64 ∧ m.2.size ≤ 64 := by
  unfold mayB nameB valueB at h
  simp only [Bool.and_eq_true, decide_eq_true_eq] at h
  omega
theorem a202 (H : Has la0 env) (G : Has lc env) (P : Has lp env) (U : Has lu env) {l : List Lab} (hn : l.length ≤ 9223372036854775807) (hl : Smalls l) :
    AV env 202 [.sl (labs l)] = some (.tu [.sc (.string (if rightL l = true then textS l else ⟨#[]⟩)), .sc (.int .i64 (if rightL l = true then 0 else 1))]) := by
  have hll := labs_len l
  have h113 := a113 H G hn hl
  refine AV_wp (U (202, d202) (by simp [lu])) rfl ?_
  (repeat' first
    | refine w_seq ?_ | refine w_rg ?_ | refine wo_nil ?_ | refine g_skU ?_
    | ((first | apply s_plain | apply s_void | apply s_guard); · simp only [go_sem, Nat.reduceEqDiff, Nat.reduceAdd, Nat.reduceLeDiff, h113]; (first | done | rfl))
    | ((first | apply g_T | apply g_F); · intro hb; simp only [go_sem, Nat.reduceEqDiff, Nat.reduceAdd, Nat.reduceLeDiff, h113, hb]; (first | done | rfl))
    | ((first | apply g_gT | apply g_gF); · intro hb hc; simp only [go_sem, Nat.reduceEqDiff, Nat.reduceAdd, Nat.reduceLeDiff, h113, hb, hc]; (first | done | rfl))
    | refine g_skT ?_ | refine g_skF ?_
    | ((first | apply g_goT | apply g_goF); · simp only [go_sem, Nat.reduceEqDiff, Nat.reduceAdd, Nat.reduceLeDiff, h113]; (first | done | rfl))
    )
  cases hr : rightL l with
  | false =>
    (repeat' first
    | refine w_seq ?_ | refine w_rg ?_ | refine wo_nil ?_ | refine g_skU ?_
    | ((first | apply s_plain | apply s_void | apply s_guard); · simp only [go_sem, Nat.reduceEqDiff, Nat.reduceAdd, Nat.reduceLeDiff]; (first | done | rfl))
    | ((first | apply g_T | apply g_F); · intro hb; simp only [go_sem, Nat.reduceEqDiff, Nat.reduceAdd, Nat.reduceLeDiff, hb]; (first | done | rfl))
    | ((first | apply g_gT | apply g_gF); · intro hb hc; simp only [go_sem, Nat.reduceEqDiff, Nat.reduceAdd, Nat.reduceLeDiff, hb, hc]; (first | done | rfl))
    | refine g_skT ?_ | refine g_skF ?_
    | ((first | apply g_goT | apply g_goF); · simp only [go_sem, Nat.reduceEqDiff, Nat.reduceAdd, Nat.reduceLeDiff]; (first | done | rfl))
    | (refine w_condT ?_ ?_; · simp only [go_sem, Nat.reduceEqDiff, Nat.reduceAdd, Nat.reduceLeDiff]; (first | done | rfl))
    | (refine w_condF ?_ ?_; · simp only [go_sem, Nat.reduceEqDiff, Nat.reduceAdd, Nat.reduceLeDiff]; (first | done | rfl))
    | refine w_skip ?_ | refine w_exit ?_ | refine w_ret ?_
    )
    exact ⟨.inr rfl, by simp only [go_sem, Nat.reduceEqDiff, Nat.reduceAdd, Nat.reduceLeDiff, retOf, resOf]; first | done | rfl⟩
  | true =>
    obtain ⟨hmay, _, h8⟩ := right_iff.1 hr
    have hsz : ∀ m ∈ l, m.1.size ≤ 64 ∧ m.2.size ≤ 64 := fun m hm => may_size (hmay m hm)
    obtain ⟨r, σ1, h134, hg⟩ := a134 (σ := St.nil) P (l := l) (by omega)
    (repeat' first
    | refine w_seq ?_ | refine w_rg ?_ | refine wo_nil ?_ | refine g_skU ?_
    | ((first | apply s_plain | apply s_void | apply s_guard); · simp only [go_sem, Nat.reduceEqDiff, Nat.reduceAdd, Nat.reduceLeDiff]; (first | done | rfl))
    | ((first | apply g_T | apply g_F); · intro hb; simp only [go_sem, Nat.reduceEqDiff, Nat.reduceAdd, Nat.reduceLeDiff, hb]; (first | done | rfl))
    | ((first | apply g_gT | apply g_gF); · intro hb hc; simp only [go_sem, Nat.reduceEqDiff, Nat.reduceAdd, Nat.reduceLeDiff, hb, hc]; (first | done | rfl))
    | refine g_skT ?_ | refine g_skF ?_
    | ((first | apply g_goT | apply g_goF); · simp only [go_sem, Nat.reduceEqDiff, Nat.reduceAdd, Nat.reduceLeDiff]; (first | done | rfl))
    | (refine w_condT ?_ ?_; · simp only [go_sem, Nat.reduceEqDiff, Nat.reduceAdd, Nat.reduceLeDiff]; (first | done | rfl))
    | (refine w_condF ?_ ?_; · simp only [go_sem, Nat.reduceEqDiff, Nat.reduceAdd, Nat.reduceLeDiff]; (first | done | rfl))
    | refine w_skip ?_ | refine w_exit ?_ | refine w_ret ?_
    )
    (repeat' first
    | refine w_seq ?_ | refine w_rg ?_ | refine wo_nil ?_ | refine g_skU ?_
    | ((first | apply s_plain | apply s_void | apply s_guard); · simp only [go_sem, Nat.reduceEqDiff, Nat.reduceAdd, Nat.reduceLeDiff, h134]; (first | done | rfl))
    | ((first | apply g_T | apply g_F); · intro hb; simp only [go_sem, Nat.reduceEqDiff, Nat.reduceAdd, Nat.reduceLeDiff, h134, hb]; (first | done | rfl))
    | ((first | apply g_gT | apply g_gF); · intro hb hc; simp only [go_sem, Nat.reduceEqDiff, Nat.reduceAdd, Nat.reduceLeDiff, h134, hb, hc]; (first | done | rfl))
    | refine g_skT ?_ | refine g_skF ?_
    | ((first | apply g_goT | apply g_goF); · simp only [go_sem, Nat.reduceEqDiff, Nat.reduceAdd, Nat.reduceLeDiff, h134]; (first | done | rfl))
    )
    refine s_plain (gat_len hg (by simp only [go_sem, Nat.reduceEqDiff, Nat.reduceAdd, Nat.reduceLeDiff])) ?_
    (repeat' first
    | refine w_seq ?_ | refine w_rg ?_ | refine wo_nil ?_ | refine g_skU ?_
    | ((first | apply s_plain | apply s_void | apply s_guard); · simp only [go_sem, Nat.reduceEqDiff, Nat.reduceAdd, Nat.reduceLeDiff, hll]; (first | done | rfl))
    | ((first | apply g_T | apply g_F); · intro hb; simp only [go_sem, Nat.reduceEqDiff, Nat.reduceAdd, Nat.reduceLeDiff, hll, hb]; (first | done | rfl))
    | ((first | apply g_gT | apply g_gF); · intro hb hc; simp only [go_sem, Nat.reduceEqDiff, Nat.reduceAdd, Nat.reduceLeDiff, hll, hb, hc]; (first | done | rfl))
    | refine g_skT ?_ | refine g_skF ?_
    | ((first | apply g_goT | apply g_goF); · simp only [go_sem, Nat.reduceEqDiff, Nat.reduceAdd, Nat.reduceLeDiff, hll]; (first | done | rfl))
    )
    refine w_block (w_range l.length hn (fun i fr σ => Gat σ [15] 2 true (fr 11) (labs l) ∧ Gat σ [21] 1 false (fr 4) (partsP (l.take i))) (by decide) ?_ ?_ ?_ _ _ ?_ ?_ ?_)
    · rintro i fr σ v ⟨h0, h1⟩
      refine ⟨⟨?_, ?_⟩, ⟨?_, ?_⟩, ⟨?_, ?_⟩⟩ <;> simp only [go_sem, Nat.reduceEqDiff, Nat.reduceAdd, Nat.reduceLeDiff, h0, h1]
    · rintro i fr σ hi ⟨g11, hg⟩ hti htn
      rcases g11 with ⟨_, hnil⟩ | ⟨o, g, wr, ho, q11, qm, qc, qne, qw⟩
      · exfalso
        have := congrArg List.length hnil
        rw [hll] at this
        simp only [List.length_nil] at this
        omega
      · have ho' : o = 15 := by simpa using ho
        subst ho'
        have g11 : Gat σ [15] 2 true (fr 11) (labs l) := .inr ⟨15, g, wr, ho, q11, qm, qc, qne, qw⟩
        rw [hll] at q11
        have hy := labs_at (List.getElem?_eq_getElem hi)
        have e1 : (0 : Int) ≤ (i : Int) ∧ (i : Int) < (l.length : Int) := by omega
        have h176 := a176 U (m := l[i]) (hsz _ (List.getElem_mem hi)).1 (hsz _ (List.getElem_mem hi)).2
        refine w_block ?_
        simp only [lab] at hy h176
        (repeat' first
    | refine w_seq ?_ | refine w_rg ?_ | refine wo_nil ?_ | refine g_skU ?_
    | ((first | apply s_plain | apply s_void | apply s_guard); · simp only [go_sem, Nat.reduceEqDiff, Nat.reduceAdd, Nat.reduceLeDiff, q11, qm, hti, e1, Int.toNat_natCast, hy, h176, List.modify_zero_cons, fillE, List.replicate_succ, List.replicate_zero, List.set_cons_zero, List.drop_zero]; (first | done | rfl))
    | ((first | apply g_T | apply g_F); · intro hb; simp only [go_sem, Nat.reduceEqDiff, Nat.reduceAdd, Nat.reduceLeDiff, q11, qm, hti, e1, Int.toNat_natCast, hy, h176, List.modify_zero_cons, fillE, List.replicate_succ, List.replicate_zero, List.set_cons_zero, List.drop_zero, hb]; (first | done | rfl))
    | ((first | apply g_gT | apply g_gF); · intro hb hc; simp only [go_sem, Nat.reduceEqDiff, Nat.reduceAdd, Nat.reduceLeDiff, q11, qm, hti, e1, Int.toNat_natCast, hy, h176, List.modify_zero_cons, fillE, List.replicate_succ, List.replicate_zero, List.set_cons_zero, List.drop_zero, hb, hc]; (first | done | rfl))
    | refine g_skT ?_ | refine g_skF ?_
    | ((first | apply g_goT | apply g_goF); · simp only [go_sem, Nat.reduceEqDiff, Nat.reduceAdd, Nat.reduceLeDiff, q11, qm, hti, e1, Int.toNat_natCast, hy, h176, List.modify_zero_cons, fillE, List.replicate_succ, List.replicate_zero, List.set_cons_zero, List.drop_zero]; (first | done | rfl))
    )
        have hpt : partsP (l.take (i + 1)) = partsP (l.take i) ++ [.sc (.string (markS l[i]))] := by
          rw [List.take_succ_eq_append_getElem hi]; simp only [partsP, List.map_append, List.map_cons, List.map_nil]
        have hlen : (partsP (l.take i)).length ≤ 8 := by simp [partsP, List.length_take]; omega
        refine s_gatL (os := [21]) (w := false) (ys := [.sc (.string (markS l[i]))]) (by simp only [go_sem, Nat.reduceEqDiff, Nat.reduceAdd, Nat.reduceLeDiff]; exact ((hg.new _).put (d := 2000006) (by decide) _).new _) (by simp only [go_sem, Nat.reduceEqDiff, Nat.reduceAdd, Nat.reduceLeDiff, srcOf, elemsOf]) rfl (by simp; omega) ?_
        intro p σ' hg2 kp
        rw [Bool.false_and, ← hpt] at hg2
        (repeat' first
    | refine w_seq ?_ | refine w_rg ?_ | refine wo_nil ?_ | refine g_skU ?_
    | ((first | apply s_plain | apply s_void | apply s_guard); · simp only [go_sem, Nat.reduceEqDiff, Nat.reduceAdd, Nat.reduceLeDiff]; (first | done | rfl))
    | ((first | apply g_T | apply g_F); · intro hb; simp only [go_sem, Nat.reduceEqDiff, Nat.reduceAdd, Nat.reduceLeDiff, hb]; (first | done | rfl))
    | ((first | apply g_gT | apply g_gF); · intro hb hc; simp only [go_sem, Nat.reduceEqDiff, Nat.reduceAdd, Nat.reduceLeDiff, hb, hc]; (first | done | rfl))
    | refine g_skT ?_ | refine g_skF ?_
    | ((first | apply g_goT | apply g_goF); · simp only [go_sem, Nat.reduceEqDiff, Nat.reduceAdd, Nat.reduceLeDiff]; (first | done | rfl))
    )
        refine ⟨⟨?_, ?_⟩, ?_, ?_⟩
        · simp only [go_sem, Nat.reduceEqDiff, Nat.reduceAdd, Nat.reduceLeDiff]; exact ((((g11.new _).put (d := 2000006) (by decide) _).new _).keep kp (by simp))
        · simp only [go_sem, Nat.reduceEqDiff, Nat.reduceAdd, Nat.reduceLeDiff]; exact hg2
        · simp only [go_sem, Nat.reduceEqDiff, Nat.reduceAdd, Nat.reduceLeDiff, hti]
        · simp only [go_sem, Nat.reduceEqDiff, Nat.reduceAdd, Nat.reduceLeDiff, htn]
    · rintro fr σ ⟨_, hg⟩
      try simp only [if_true]
      rw [List.take_of_length_le (Nat.le_refl _)] at hg
      have hfz := hg.fz (parts_fz σ _)
      have h23 := a23 U hsz h8
      have bl : (bodyS l).size ≤ 1608 := by
        have hj := join_len [44] (l.map fun m => (markS m).data.toList) (fun x hx => by
          obtain ⟨m, hm, rfl⟩ := List.mem_map.1 hx
          exact mark_size (hsz m hm).1 (hsz m hm).2) (by simp)
        rw [List.length_map] at hj
        simp only [bodyS, ByteArray.size, List.size_toArray]
        omega
      have q1 : (⟨#[123]⟩ : ByteArray).size + (bodyS l).size ≤ 9223372036854775807 := by
        have : (⟨#[123]⟩ : ByteArray).size = 1 := rfl
        omega
      have q2 : (⟨#[123]⟩ ++ bodyS l).size + (⟨#[125]⟩ : ByteArray).size ≤ 9223372036854775807 := by
        rw [ByteArray.size_append]
        have : (⟨#[123]⟩ : ByteArray).size = 1 := rfl
        have : (⟨#[125]⟩ : ByteArray).size = 1 := rfl
        omega
      (repeat' first
    | refine w_seq ?_ | refine w_rg ?_ | refine wo_nil ?_ | refine g_skU ?_
    | ((first | apply s_plain | apply s_void | apply s_guard); · simp only [go_sem, Nat.reduceEqDiff, Nat.reduceAdd, Nat.reduceLeDiff]; (first | done | rfl))
    | ((first | apply g_T | apply g_F); · intro hb; simp only [go_sem, Nat.reduceEqDiff, Nat.reduceAdd, Nat.reduceLeDiff, hb]; (first | done | rfl))
    | ((first | apply g_gT | apply g_gF); · intro hb hc; simp only [go_sem, Nat.reduceEqDiff, Nat.reduceAdd, Nat.reduceLeDiff, hb, hc]; (first | done | rfl))
    | refine g_skT ?_ | refine g_skF ?_
    | ((first | apply g_goT | apply g_goF); · simp only [go_sem, Nat.reduceEqDiff, Nat.reduceAdd, Nat.reduceLeDiff]; (first | done | rfl))
    )
      refine s_call (as := [.sl (partsP l), .sc (.string ⟨#[44]⟩)]) (by simp only [go_sem, Nat.reduceEqDiff, Nat.reduceAdd, Nat.reduceLeDiff, hfz]) h23 ?_
      intro σ'
      (repeat' first
    | refine w_seq ?_ | refine w_rg ?_ | refine wo_nil ?_ | refine g_skU ?_
    | ((first | apply s_plain | apply s_void | apply s_guard); · simp only [go_sem, Nat.reduceEqDiff, Nat.reduceAdd, Nat.reduceLeDiff, q1, q2]; (first | done | rfl))
    | ((first | apply g_T | apply g_F); · intro hb; simp only [go_sem, Nat.reduceEqDiff, Nat.reduceAdd, Nat.reduceLeDiff, q1, q2, hb]; (first | done | rfl))
    | ((first | apply g_gT | apply g_gF); · intro hb hc; simp only [go_sem, Nat.reduceEqDiff, Nat.reduceAdd, Nat.reduceLeDiff, q1, q2, hb, hc]; (first | done | rfl))
    | refine g_skT ?_ | refine g_skF ?_
    | ((first | apply g_goT | apply g_goF); · simp only [go_sem, Nat.reduceEqDiff, Nat.reduceAdd, Nat.reduceLeDiff, q1, q2]; (first | done | rfl))
    | (refine w_condT ?_ ?_; · simp only [go_sem, Nat.reduceEqDiff, Nat.reduceAdd, Nat.reduceLeDiff, q1, q2]; (first | done | rfl))
    | (refine w_condF ?_ ?_; · simp only [go_sem, Nat.reduceEqDiff, Nat.reduceAdd, Nat.reduceLeDiff, q1, q2]; (first | done | rfl))
    | refine w_skip ?_ | refine w_exit ?_ | refine w_ret ?_
    )
      exact ⟨.inr rfl, by simp only [go_sem, Nat.reduceEqDiff, Nat.reduceAdd, Nat.reduceLeDiff, retOf, resOf, hr]; first | done | rfl⟩
    · exact ⟨by simp only [go_sem, Nat.reduceEqDiff, Nat.reduceAdd, Nat.reduceLeDiff]; exact hg, by simp only [go_sem, Nat.reduceEqDiff, Nat.reduceAdd, Nat.reduceLeDiff]; exact .em⟩
    · simp only [go_sem, Nat.reduceEqDiff, Nat.reduceAdd, Nat.reduceLeDiff]
    · simp only [go_sem, Nat.reduceEqDiff, Nat.reduceAdd, Nat.reduceLeDiff, hll]
end
end Go.Proofs.YtjijlmfhnkipmaaDoorPv
namespace Go.Proofs.YtjijlmfhnkipmaaDoorPv
open Go
set_option linter.unusedSimpArgs false
set_option linter.unusedVariables false
set_option maxHeartbeats 4000000
attribute [local go_sem ↓] e_mv e_pick e_bin e_eqs e_beq e_un e_cvi e_str e_s2b e_b2s e_box e_build e_bsl e_ld e_st e_nck e_mkf e_slcS e_slcL e_fa e_fld e_ia e_iaa e_ix e_ixa e_ext e_lenS e_lenL e_mnmx e_app e_appb e_bbx e_msl e_clr e_call e_callv pa_t pa_c pa_f slcSP_str hiOf_some hiOf_none loOf_some loOf_none set_eq set_ne
attribute [local go_sem] pv pv1 simple frOf_0 frOf_1 frOf_2 frOf_3 frOf_4 frOf_5 ne_eq not_false_eq_true if_true Bool.false_eq_true if_false pbin punary Option.map_some Option.bind_some pick_and pick_or opt_true Bool.true_and Bool.and_self Bool.and_true Bool.true_or Bool.false_or Bool.not_true Bool.not_false callE pcall_eq List.map_cons List.map_nil List.append_nil List.nil_append List.cons_append mapM_cons' mapM_nil' dep_eq fz_sc fz_sl fz_em fz_fn fz_fp fz_agg fz_tu fz_bx fz_ob Nat.lt_irrefl Nat.zero_lt_one Nat.lt_add_one flat clL cl Bool.or_true okc_sc okc_em okc_sl okc_ob okc_bx okc_fp okc_fn okc_agg okc_ifc cells_agg cells_sc cells_sl cells_em cells_ob cells_fn cells_bx cells_fp List.length_cons List.length_nil Nat.zero_add and_self true_and and_true new_m new_c put_m put_c nil_m nil_c deref List.getElem?_cons_zero List.getElem?_cons_succ List.drop_zero List.drop_succ_cons List.take_succ_cons List.take_zero Nat.le_refl false_and and_false decide_true decide_false lenP_em lenP_nil lenP_sl lenP_ob Int.ofNat_zero
set_option maxRecDepth 8000
section
variable {env : Nat → Option Def} {fr : Fr} {σ σ' : St} {K : Fr → St → Prop} {Q : X → Fr → St → Prop}
def bp (l : List UInt8) : List PV := l.map fun b => .sc (.int .u8 b.toNat)
theorem bp_app (a b : List UInt8) : bp (a ++ b) = bp a ++ bp b := by simp [bp]
theorem bp_len (a : List UInt8) : (bp a).length = a.length := by simp [bp]
theorem bp_bytes (s : ByteArray) : bytesPV s = bp s.data.toList := rfl
theorem bp_ok (l : List UInt8) : ((bp l).all fun y => okc y && (cellsOf y).length == 1) = true := by
  rw [List.all_eq_true]
  intro x hx
  simp only [bp, List.mem_map] at hx
  obtain ⟨m, _, rfl⟩ := hx
  rfl
theorem bp_back (l : List UInt8) : (bp l).mapM byteOf = some l := by
  induction l with
  | nil => rfl
  | cons b r ih =>
    show List.mapM byteOf (.sc (.int .u8 b.toNat) :: bp r) = _
    rw [mapM_cons', ih]
    simp [byteOf]
theorem gat_elems {os : List Nat} {es : Nat} {w : Bool} {p : PV} {xs : List PV} (hg : Gat σ os es w p xs) : elemsOf σ p = some xs := by
  rcases hg with ⟨rfl, rfl⟩ | ⟨o, g, wr, h0, rfl, h2, h3, h4, h5⟩
  · rfl
  · simp [elemsOf, h2]
theorem join_snoc (sep x : List UInt8) : ∀ xs : List (List UInt8), Lib.join (xs ++ [x]) sep = if xs = [] then x else Lib.join xs sep ++ sep ++ x
  | [] => by simp [Lib.join_one]
  | y :: r => by
    rw [List.cons_append, Lib.join_cons, Lib.join_cons]
    simp [Lib.joinTail]
/-- The text as far as the first i labels. -/
def preT (l : List Lab) (i : Nat) : List UInt8 := 123 :: Lib.join ((l.take i).map fun m => (markS m).data.toList) [44]
theorem mark_bytes (m : Lab) : (markS m).data.toList = m.1.data.toList ++ [61, 34] ++ esc m.2.data.toList ++ [34] := by
  simp [markS, escS, ByteArray.data_append]
theorem preT_succ {l : List Lab} {i : Nat} (hi : i < l.length) : preT l (i + 1) = preT l i ++ (if (i : Int) > 0 then [44] else []) ++ l[i].1.data.toList ++ [61, 34] ++ esc l[i].2.data.toList ++ [34] := by
  unfold preT
  rw [List.take_succ_eq_append_getElem hi, List.map_append, List.map_cons, List.map_nil, join_snoc, mark_bytes]
  cases i with
  | zero => simp [Lib.join]
  | succ i =>
    have hne : (l.take (i + 1)).map (fun m => (markS m).data.toList) ≠ [] := by
      intro h
      have h2 := congrArg List.length h
      simp only [List.length_map, List.length_take, List.length_nil] at h2
      omega
    rw [if_neg hne, if_pos (by omega)]
    simp
theorem preT_len {l : List Lab} (hsz : ∀ m ∈ l, m.1.size ≤ 64 ∧ m.2.size ≤ 64) (h8 : l.length ≤ 8) (i : Nat) : (preT l i).length ≤ 1700 := by
  have hj := join_len [44] ((l.take i).map fun m => (markS m).data.toList) (fun x hx => by
    obtain ⟨m, hm, rfl⟩ := List.mem_map.1 hx
    exact mark_size (hsz m (List.mem_of_mem_take hm)).1 (hsz m (List.mem_of_mem_take hm)).2) (by simp)
  rw [List.length_map, List.length_take] at hj
  simp only [preT, List.length_cons]
  omega
theorem esc_succ {v : List UInt8} {k : Nat} {u : UInt8} (hu : v[k]? = some u) : esc (v.take (k + 1)) = esc (v.take k) ++ (if u = 34 ∨ u = 92 then [92] else []) ++ [u] := by
  obtain ⟨hk, rfl⟩ := List.getElem?_eq_some_iff.1 hu
  rw [List.take_succ_eq_append_getElem hk]
  unfold esc
  rw [List.flatMap_append]
  simp only [List.flatMap_cons, List.flatMap_nil, List.append_nil, List.append_assoc]
  congr 1
  split <;> rfl
def OS : List Nat := [7, 19, 24, 27, 49, 56, 59]
/-- What stands while a label is written. -/
structure Wr (l : List Lab) (i : Nat) (m : Lab) (out : List UInt8) (fr : Fr) (σ : St) : Prop where
  f8 : fr 8 = .sl (labs l)
  f9 : fr 9 = .sc (.int .i64 l.length)
  f10 : fr 10 = .sc (.int .i64 i)
  f4 : fr 4 = .sc (.int .i64 i)
  f5 : ∃ g, fr 5 = .bx 2000005 g 2 0 0 ∧ σ.m 2000005 g = some ⟨2, [.agg [.sc (.string m.1), .sc (.string m.2)]], true, true⟩ ∧ g < σ.c 2000005
  g3 : Gat σ OS 1 false (fr 3) (bp out)
theorem Gat.one {d es : Nat} {w : Bool} {p : PV} {xs : List PV} {os : List Nat} (h : Gat σ [d] es w p xs) (hd : d ∈ os) : Gat σ os es false p xs := h.mono (by intro o ho; simp at ho; subst ho; exact hd)
theorem keep5 {os : List Nat} {g : Nat} {x : Obj} (hk : Keeps σ σ' os) (h5 : 2000005 ∉ os) (hm : σ.m 2000005 g = some x) (hg : g < σ.c 2000005) : σ'.m 2000005 g = some x ∧ g < σ'.c 2000005 :=
  ⟨by rw [hk.m 2000005 g h5 hg]; exact hm, Nat.lt_of_lt_of_le hg (hk.c 2000005)⟩
theorem new5 {d g : Nat} {x y : Obj} (hd : d ≠ 2000005) (hm : σ.m 2000005 g = some x) (hg : g < σ.c 2000005) : (σ.new d y).m 2000005 g = some x ∧ g < (σ.new d y).c 2000005 :=
  ⟨by simp only [new_m]; rw [if_neg (fun h => hd h.1.symm)]; exact hm, by simp only [new_c]; rw [if_neg (Ne.symm hd)]; exact hg⟩
theorem a211 (U : Has lu env) {l : List Lab} (hsz : ∀ m ∈ l, m.1.size ≤ 64 ∧ m.2.size ≤ 64) (h8 : l.length ≤ 8) : AV env 211 [.sl (labs l)] = some (.sc (.string (textS l))) := by
  have hll := labs_len l
  have hpl := preT_len hsz h8
  refine AV_wp (U (211, d211) (by simp [lu])) rfl ?_
  (repeat' first
    | refine w_seq ?_ | refine w_rg ?_ | refine wo_nil ?_ | refine g_skU ?_
    | ((first | apply s_plain | apply s_void | apply s_guard); · simp only [go_sem, Nat.reduceEqDiff, Nat.reduceAdd, Nat.reduceLeDiff, hll, fillE, List.replicate_succ, List.replicate_zero, List.set_cons_zero]; (first | done | rfl))
    | ((first | apply g_T | apply g_F); · intro hb; simp only [go_sem, Nat.reduceEqDiff, Nat.reduceAdd, Nat.reduceLeDiff, hll, fillE, List.replicate_succ, List.replicate_zero, List.set_cons_zero, hb]; (first | done | rfl))
    | ((first | apply g_gT | apply g_gF); · intro hb hc; simp only [go_sem, Nat.reduceEqDiff, Nat.reduceAdd, Nat.reduceLeDiff, hll, fillE, List.replicate_succ, List.replicate_zero, List.set_cons_zero, hb, hc]; (first | done | rfl))
    | refine g_skT ?_ | refine g_skF ?_
    | ((first | apply g_goT | apply g_goF); · simp only [go_sem, Nat.reduceEqDiff, Nat.reduceAdd, Nat.reduceLeDiff, hll, fillE, List.replicate_succ, List.replicate_zero, List.set_cons_zero]; (first | done | rfl))
    )
  refine w_block (w_range l.length (by omega) (fun i fr σ => fr 8 = .sl (labs l) ∧ Gat σ OS 1 false (fr 3) (bp (preT l i))) (by decide) ?_ ?_ ?_ _ _ ?_ ?_ ?_)
  · rintro i fr σ v ⟨h0, h1⟩
    refine ⟨⟨?_, ?_⟩, ⟨?_, ?_⟩, ⟨?_, ?_⟩⟩ <;> simp only [go_sem, Nat.reduceEqDiff, Nat.reduceAdd, Nat.reduceLeDiff, h0, h1]
  · rintro i fr σ hi ⟨f8, hg⟩ hti htn
    have hy := labs_at (List.getElem?_eq_getElem hi)
    have e1 : (0 : Int) ≤ (i : Int) ∧ (i : Int) < (l.length : Int) := by omega
    have hz := hsz _ (List.getElem_mem hi)
    have hsuc := preT_succ hi
    generalize hm : l[i] = m at hy hz hsuc
    refine w_block ?_
    simp only [lab] at hy
    (repeat' first
    | refine w_seq ?_ | refine w_rg ?_ | refine wo_nil ?_ | refine g_skU ?_
    | ((first | apply s_plain | apply s_void | apply s_guard); · simp only [go_sem, Nat.reduceEqDiff, Nat.reduceAdd, Nat.reduceLeDiff, f8, hti, e1, hll, Int.toNat_natCast, hy, List.modify_zero_cons]; (first | done | rfl))
    | ((first | apply g_T | apply g_F); · intro hb; simp only [go_sem, Nat.reduceEqDiff, Nat.reduceAdd, Nat.reduceLeDiff, f8, hti, e1, hll, Int.toNat_natCast, hy, List.modify_zero_cons, hb]; (first | done | rfl))
    | ((first | apply g_gT | apply g_gF); · intro hb hc; simp only [go_sem, Nat.reduceEqDiff, Nat.reduceAdd, Nat.reduceLeDiff, f8, hti, e1, hll, Int.toNat_natCast, hy, List.modify_zero_cons, hb, hc]; (first | done | rfl))
    | refine g_skT ?_ | refine g_skF ?_
    | ((first | apply g_goT | apply g_goF); · simp only [go_sem, Nat.reduceEqDiff, Nat.reduceAdd, Nat.reduceLeDiff, f8, hti, e1, hll, Int.toNat_natCast, hy, List.modify_zero_cons]; (first | done | rfl))
    )
    refine w_gen (J := fun fr τ => Wr l i m (preT l i) fr τ ∧ fr 16 = .sc (.bool (decide ((i : Int) > 0)))) ⟨⟨by simp only [go_sem, Nat.reduceEqDiff, Nat.reduceAdd, Nat.reduceLeDiff, f8], by simp only [go_sem, Nat.reduceEqDiff, Nat.reduceAdd, Nat.reduceLeDiff, htn], by simp only [go_sem, Nat.reduceEqDiff, Nat.reduceAdd, Nat.reduceLeDiff, hti], by simp only [go_sem, Nat.reduceEqDiff, Nat.reduceAdd, Nat.reduceLeDiff, hti], ⟨σ.c 2000005, by simp only [go_sem, Nat.reduceEqDiff, Nat.reduceAdd, Nat.reduceLeDiff], by simp only [go_sem, Nat.reduceEqDiff, Nat.reduceAdd, Nat.reduceLeDiff], by simp only [go_sem, Nat.reduceEqDiff, Nat.reduceAdd, Nat.reduceLeDiff]; first | done | omega⟩, by simp only [go_sem, Nat.reduceEqDiff, Nat.reduceAdd, Nat.reduceLeDiff]; exact (hg.new _).put (d := 2000005) (by decide) _⟩, by simp only [go_sem, Nat.reduceEqDiff, Nat.reduceAdd, Nat.reduceLeDiff]⟩ ?_
    clear hg f8 hti htn fr σ
    rintro fr σ ⟨hW, h16⟩
    refine Wp.mono (Q := fun x fr τ => x = .normal ∧ Wr l i m (preT l i ++ (if (i : Int) > 0 then [44] else [])) fr τ) ?_ ?_
    · by_cases hi0 : (i : Int) > 0
      · obtain ⟨w8, w9, w10, w4, ⟨g5, w5, wm, wc⟩, wg⟩ := hW
        refine w_condT (by simp only [go_sem, Nat.reduceEqDiff, Nat.reduceAdd, Nat.reduceLeDiff, h16, hi0, decide_true]) ?_
        (repeat' first
    | refine w_seq ?_ | refine w_rg ?_ | refine wo_nil ?_ | refine g_skU ?_
    | ((first | apply s_plain | apply s_void | apply s_guard); · simp only [go_sem, Nat.reduceEqDiff, Nat.reduceAdd, Nat.reduceLeDiff, fillE, List.replicate_succ, List.replicate_zero, List.set_cons_zero, List.set_cons_succ]; (first | done | rfl))
    | ((first | apply g_T | apply g_F); · intro hb; simp only [go_sem, Nat.reduceEqDiff, Nat.reduceAdd, Nat.reduceLeDiff, fillE, List.replicate_succ, List.replicate_zero, List.set_cons_zero, List.set_cons_succ, hb]; (first | done | rfl))
    | ((first | apply g_gT | apply g_gF); · intro hb hc; simp only [go_sem, Nat.reduceEqDiff, Nat.reduceAdd, Nat.reduceLeDiff, fillE, List.replicate_succ, List.replicate_zero, List.set_cons_zero, List.set_cons_succ, hb, hc]; (first | done | rfl))
    | refine g_skT ?_ | refine g_skF ?_
    | ((first | apply g_goT | apply g_goF); · simp only [go_sem, Nat.reduceEqDiff, Nat.reduceAdd, Nat.reduceLeDiff, fillE, List.replicate_succ, List.replicate_zero, List.set_cons_zero, List.set_cons_succ]; (first | done | rfl))
    )
        refine s_gatL (os := OS) (ys := [.sc (.int .u8 44)]) (by simp only [go_sem, Nat.reduceEqDiff, Nat.reduceAdd, Nat.reduceLeDiff]; exact wg.new _) (by simp only [go_sem, Nat.reduceEqDiff, Nat.reduceAdd, Nat.reduceLeDiff, srcOf, elemsOf]) rfl (by rw [bp_len]; have := hpl i; simp only [List.length_cons, List.length_nil]; omega) ?_
        intro p τ hg2 kp
        have k6 := keep5 kp (by decide) (new5 (by decide) wm wc).1 (new5 (by decide) wm wc).2
        (repeat' first
    | refine w_seq ?_ | refine w_rg ?_ | refine wo_nil ?_ | refine g_skU ?_
    | ((first | apply s_plain | apply s_void | apply s_guard); · simp only [go_sem, Nat.reduceEqDiff, Nat.reduceAdd, Nat.reduceLeDiff]; (first | done | rfl))
    | ((first | apply g_T | apply g_F); · intro hb; simp only [go_sem, Nat.reduceEqDiff, Nat.reduceAdd, Nat.reduceLeDiff, hb]; (first | done | rfl))
    | ((first | apply g_gT | apply g_gF); · intro hb hc; simp only [go_sem, Nat.reduceEqDiff, Nat.reduceAdd, Nat.reduceLeDiff, hb, hc]; (first | done | rfl))
    | refine g_skT ?_ | refine g_skF ?_
    | ((first | apply g_goT | apply g_goF); · simp only [go_sem, Nat.reduceEqDiff, Nat.reduceAdd, Nat.reduceLeDiff]; (first | done | rfl))
    )
        refine ⟨rfl, ⟨?_, ?_, ?_, ?_, ⟨g5, ?_, k6.1, k6.2⟩, ?_⟩⟩
        · simp only [go_sem, Nat.reduceEqDiff, Nat.reduceAdd, Nat.reduceLeDiff, w8]
        · simp only [go_sem, Nat.reduceEqDiff, Nat.reduceAdd, Nat.reduceLeDiff, w9]
        · simp only [go_sem, Nat.reduceEqDiff, Nat.reduceAdd, Nat.reduceLeDiff, w10]
        · simp only [go_sem, Nat.reduceEqDiff, Nat.reduceAdd, Nat.reduceLeDiff, w4]
        · simp only [go_sem, Nat.reduceEqDiff, Nat.reduceAdd, Nat.reduceLeDiff, w5]
        · simp only [go_sem, Nat.reduceEqDiff, Nat.reduceAdd, Nat.reduceLeDiff]
          rw [if_pos hi0, bp_app]
          exact hg2.one (by decide)
      · refine w_condF (by simp only [go_sem, Nat.reduceEqDiff, Nat.reduceAdd, Nat.reduceLeDiff, h16, hi0, decide_false]) (w_skip ⟨rfl, ?_⟩)
        rw [if_neg hi0, List.append_nil]
        exact hW
    · rintro x fr τ ⟨rfl, w8, w9, w10, w4, ⟨g5, w5, wm, wc⟩, wg⟩
      have hcl : (if (i : Int) > 0 then ([44] : List UInt8) else []).length ≤ 1 := by split <;> simp
      have hp0 := hpl i
      generalize (if (i : Int) > 0 then ([44] : List UInt8) else []) = cm at wg hcl hsuc
      have hb1 : (bytesPV m.1).length = m.1.size := bytes_len _
      (repeat' first
    | refine w_seq ?_ | refine w_rg ?_ | refine wo_nil ?_ | refine g_skU ?_
    | ((first | apply s_plain | apply s_void | apply s_guard); · simp only [go_sem, Nat.reduceEqDiff, Nat.reduceAdd, Nat.reduceLeDiff, w5, wm]; (first | done | rfl))
    | ((first | apply g_T | apply g_F); · intro hb; simp only [go_sem, Nat.reduceEqDiff, Nat.reduceAdd, Nat.reduceLeDiff, w5, wm, hb]; (first | done | rfl))
    | ((first | apply g_gT | apply g_gF); · intro hb hc; simp only [go_sem, Nat.reduceEqDiff, Nat.reduceAdd, Nat.reduceLeDiff, w5, wm, hb, hc]; (first | done | rfl))
    | refine g_skT ?_ | refine g_skF ?_
    | ((first | apply g_goT | apply g_goF); · simp only [go_sem, Nat.reduceEqDiff, Nat.reduceAdd, Nat.reduceLeDiff, w5, wm]; (first | done | rfl))
    )
      refine s_gatL (os := OS) (ys := bytesPV m.1) (by simp only [go_sem, Nat.reduceEqDiff, Nat.reduceAdd, Nat.reduceLeDiff]; exact wg) (by simp only [go_sem, Nat.reduceEqDiff, Nat.reduceAdd, Nat.reduceLeDiff, srcOf, elemsOf]) (bp_ok _) (by rw [bp_len, hb1, List.length_append]; omega) ?_
      intro p1 τ1 q1 k1
      have m1 := keep5 k1 (by decide) wm wc
      rw [bp_bytes, ← bp_app] at q1
      (repeat' first
    | refine w_seq ?_ | refine w_rg ?_ | refine wo_nil ?_ | refine g_skU ?_
    | ((first | apply s_plain | apply s_void | apply s_guard); · simp only [go_sem, Nat.reduceEqDiff, Nat.reduceAdd, Nat.reduceLeDiff, fillE, List.replicate_succ, List.replicate_zero, List.set_cons_zero, List.set_cons_succ]; (first | done | rfl))
    | ((first | apply g_T | apply g_F); · intro hb; simp only [go_sem, Nat.reduceEqDiff, Nat.reduceAdd, Nat.reduceLeDiff, fillE, List.replicate_succ, List.replicate_zero, List.set_cons_zero, List.set_cons_succ, hb]; (first | done | rfl))
    | ((first | apply g_gT | apply g_gF); · intro hb hc; simp only [go_sem, Nat.reduceEqDiff, Nat.reduceAdd, Nat.reduceLeDiff, fillE, List.replicate_succ, List.replicate_zero, List.set_cons_zero, List.set_cons_succ, hb, hc]; (first | done | rfl))
    | refine g_skT ?_ | refine g_skF ?_
    | ((first | apply g_goT | apply g_goF); · simp only [go_sem, Nat.reduceEqDiff, Nat.reduceAdd, Nat.reduceLeDiff, fillE, List.replicate_succ, List.replicate_zero, List.set_cons_zero, List.set_cons_succ]; (first | done | rfl))
    )
      refine s_gatL (os := [24]) (ys := [.sc (.int .u8 61), .sc (.int .u8 34)]) (by simp only [go_sem, Nat.reduceEqDiff, Nat.reduceAdd, Nat.reduceLeDiff]; exact q1.new _) (by simp only [go_sem, Nat.reduceEqDiff, Nat.reduceAdd, Nat.reduceLeDiff, srcOf, elemsOf]) rfl (by rw [bp_len]; simp only [List.length_append, List.length_cons, List.length_nil, Array.length_toList]; have : m.1.data.size = m.1.size := rfl; omega) ?_
      intro p2 τ2 q2 k2
      have m2 := keep5 k2 (by decide) (new5 (by decide) m1.1 m1.2).1 (new5 (by decide) m1.1 m1.2).2
      have q2' : Gat τ2 OS 1 false p2 (bp (preT l i ++ cm ++ m.1.data.toList ++ [61, 34])) := by
        rw [bp_app]; exact q2.one (by decide)
      have ho1 : (preT l i ++ cm ++ m.1.data.toList ++ [61, 34]).length ≤ 1800 := by
        simp only [List.length_append, List.length_cons, List.length_nil, Array.length_toList]
        have : m.1.data.size = m.1.size := rfl
        omega
      have hsuc' : preT l (i + 1) = (preT l i ++ cm ++ m.1.data.toList ++ [61, 34]) ++ esc m.2.data.toList ++ [34] := by rw [hsuc]
      generalize preT l i ++ cm ++ m.1.data.toList ++ [61, 34] = out1 at q2' ho1 hsuc'
      (repeat' first
    | refine w_seq ?_ | refine w_rg ?_ | refine wo_nil ?_ | refine g_skU ?_
    | ((first | apply s_plain | apply s_void | apply s_guard); · simp only [go_sem, Nat.reduceEqDiff, Nat.reduceAdd, Nat.reduceLeDiff]; (first | done | rfl))
    | ((first | apply g_T | apply g_F); · intro hb; simp only [go_sem, Nat.reduceEqDiff, Nat.reduceAdd, Nat.reduceLeDiff, hb]; (first | done | rfl))
    | ((first | apply g_gT | apply g_gF); · intro hb hc; simp only [go_sem, Nat.reduceEqDiff, Nat.reduceAdd, Nat.reduceLeDiff, hb, hc]; (first | done | rfl))
    | refine g_skT ?_ | refine g_skF ?_
    | ((first | apply g_goT | apply g_goF); · simp only [go_sem, Nat.reduceEqDiff, Nat.reduceAdd, Nat.reduceLeDiff]; (first | done | rfl))
    )
      refine w_block (w_count m.2.size (fun k fr τ => Wr l i m (out1 ++ esc (m.2.data.toList.take k)) fr τ ∧ fr 6 = .sc (.int .i64 k)) ?_ _ _ ?_)
      · rintro k fr τ hk ⟨hV, v6⟩
        have hel : (esc (m.2.data.toList.take k)).length ≤ 128 := by
          have := esc_len (m.2.data.toList.take k)
          rw [List.length_take] at this
          have h0 : m.2.data.toList.length = m.2.size := by simp
          omega
        by_cases hlt : k < m.2.size
        · have hd : decide ((k : Int) < (m.2.size : Int)) = true := decide_eq_true (by omega)
          obtain ⟨u, hu, _⟩ := byte_get hlt
          have e1' : (0 : Int) ≤ (k : Int) := by omega
          have e2 := wrap_succ hlt (by omega)
          have hc : ((u.toNat : Int) == 34 || (u.toNat : Int) == 92) = decide (u = 34 ∨ u = 92) := by
            have x1 : ((u.toNat : Int) == 34) = decide (u = 34) := by
              rw [Bool.eq_iff_iff, beq_iff_eq, decide_eq_true_iff, ← UInt8.toNat_inj]
              exact ⟨fun h => by simpa using (by omega : u.toNat = 34), fun h => by rw [h]; rfl⟩
            have x2 : ((u.toNat : Int) == 92) = decide (u = 92) := by
              rw [Bool.eq_iff_iff, beq_iff_eq, decide_eq_true_iff, ← UInt8.toNat_inj]
              exact ⟨fun h => by simpa using (by omega : u.toNat = 92), fun h => by rw [h]; rfl⟩
            rw [x1, x2, Bool.decide_or]
          obtain ⟨v8, v9, v10, v4, ⟨g5, v5, vm, vc⟩, vg⟩ := hV
          (repeat' first
    | refine w_seq ?_ | refine w_rg ?_ | refine wo_nil ?_ | refine g_skU ?_
    | ((first | apply s_plain | apply s_void | apply s_guard); · simp only [go_sem, Nat.reduceEqDiff, Nat.reduceAdd, Nat.reduceLeDiff, v5, vm, v6, hd]; (first | done | rfl))
    | ((first | apply g_T | apply g_F); · intro hb; simp only [go_sem, Nat.reduceEqDiff, Nat.reduceAdd, Nat.reduceLeDiff, v5, vm, v6, hd, hb]; (first | done | rfl))
    | ((first | apply g_gT | apply g_gF); · intro hb hc; simp only [go_sem, Nat.reduceEqDiff, Nat.reduceAdd, Nat.reduceLeDiff, v5, vm, v6, hd, hb, hc]; (first | done | rfl))
    | refine g_skT ?_ | refine g_skF ?_
    | ((first | apply g_goT | apply g_goF); · simp only [go_sem, Nat.reduceEqDiff, Nat.reduceAdd, Nat.reduceLeDiff, v5, vm, v6, hd]; (first | done | rfl))
    | (refine w_condT ?_ ?_; · simp only [go_sem, Nat.reduceEqDiff, Nat.reduceAdd, Nat.reduceLeDiff, v5, vm, v6, hd]; (first | done | rfl))
    | (refine w_condF ?_ ?_; · simp only [go_sem, Nat.reduceEqDiff, Nat.reduceAdd, Nat.reduceLeDiff, v5, vm, v6, hd]; (first | done | rfl))
    | refine w_skip ?_ | refine w_exit ?_ | refine w_ret ?_
    )
          refine w_block ?_
          (repeat' first
    | refine w_seq ?_ | refine w_rg ?_ | refine wo_nil ?_ | refine g_skU ?_
    | ((first | apply s_plain | apply s_void | apply s_guard); · simp only [go_sem, Nat.reduceEqDiff, Nat.reduceAdd, Nat.reduceLeDiff, v5, vm, v6, e1', Int.toNat_natCast, hu]; (first | done | rfl))
    | ((first | apply g_T | apply g_F); · intro hb; simp only [go_sem, Nat.reduceEqDiff, Nat.reduceAdd, Nat.reduceLeDiff, v5, vm, v6, e1', Int.toNat_natCast, hu, hb]; (first | done | rfl))
    | ((first | apply g_gT | apply g_gF); · intro hb hc; simp only [go_sem, Nat.reduceEqDiff, Nat.reduceAdd, Nat.reduceLeDiff, v5, vm, v6, e1', Int.toNat_natCast, hu, hb, hc]; (first | done | rfl))
    | refine g_skT ?_ | refine g_skF ?_
    | ((first | apply g_goT | apply g_goF); · simp only [go_sem, Nat.reduceEqDiff, Nat.reduceAdd, Nat.reduceLeDiff, v5, vm, v6, e1', Int.toNat_natCast, hu]; (first | done | rfl))
    )
          refine w_gen (J := fun fr τ => Wr l i m (out1 ++ esc (m.2.data.toList.take k)) fr τ ∧ fr 6 = .sc (.int .i64 k) ∧ fr 46 = .sc (.bool (decide (u = 34 ∨ u = 92)))) ⟨⟨by simp only [go_sem, Nat.reduceEqDiff, Nat.reduceAdd, Nat.reduceLeDiff, v8], by simp only [go_sem, Nat.reduceEqDiff, Nat.reduceAdd, Nat.reduceLeDiff, v9], by simp only [go_sem, Nat.reduceEqDiff, Nat.reduceAdd, Nat.reduceLeDiff, v10], by simp only [go_sem, Nat.reduceEqDiff, Nat.reduceAdd, Nat.reduceLeDiff, v4], ⟨g5, by simp only [go_sem, Nat.reduceEqDiff, Nat.reduceAdd, Nat.reduceLeDiff, v5], vm, vc⟩, by simp only [go_sem, Nat.reduceEqDiff, Nat.reduceAdd, Nat.reduceLeDiff]; exact vg⟩, by simp only [go_sem, Nat.reduceEqDiff, Nat.reduceAdd, Nat.reduceLeDiff, v6], by simp only [go_sem, Nat.reduceEqDiff, Nat.reduceAdd, Nat.reduceLeDiff, hc]⟩ ?_
          clear v8 v9 v10 v4 v5 vm vc vg v6 fr τ
          rintro fr τ ⟨hV, v6, v46⟩
          refine Wp.mono (Q := fun x fr τ => x = .normal ∧ Wr l i m (out1 ++ esc (m.2.data.toList.take k) ++ (if u = 34 ∨ u = 92 then [92] else [])) fr τ ∧ fr 6 = .sc (.int .i64 k)) ?_ ?_
          · by_cases hq : u = 34 ∨ u = 92
            · obtain ⟨v8, v9, v10, v4, ⟨g5, v5, vm, vc⟩, vg⟩ := hV
              refine w_condT (by simp only [go_sem, Nat.reduceEqDiff, Nat.reduceAdd, Nat.reduceLeDiff, v46, decide_eq_true hq]) ?_
              (repeat' first
    | refine w_seq ?_ | refine w_rg ?_ | refine wo_nil ?_ | refine g_skU ?_
    | ((first | apply s_plain | apply s_void | apply s_guard); · simp only [go_sem, Nat.reduceEqDiff, Nat.reduceAdd, Nat.reduceLeDiff, fillE, List.replicate_succ, List.replicate_zero, List.set_cons_zero, List.set_cons_succ]; (first | done | rfl))
    | ((first | apply g_T | apply g_F); · intro hb; simp only [go_sem, Nat.reduceEqDiff, Nat.reduceAdd, Nat.reduceLeDiff, fillE, List.replicate_succ, List.replicate_zero, List.set_cons_zero, List.set_cons_succ, hb]; (first | done | rfl))
    | ((first | apply g_gT | apply g_gF); · intro hb hc; simp only [go_sem, Nat.reduceEqDiff, Nat.reduceAdd, Nat.reduceLeDiff, fillE, List.replicate_succ, List.replicate_zero, List.set_cons_zero, List.set_cons_succ, hb, hc]; (first | done | rfl))
    | refine g_skT ?_ | refine g_skF ?_
    | ((first | apply g_goT | apply g_goF); · simp only [go_sem, Nat.reduceEqDiff, Nat.reduceAdd, Nat.reduceLeDiff, fillE, List.replicate_succ, List.replicate_zero, List.set_cons_zero, List.set_cons_succ]; (first | done | rfl))
    )
              refine s_gatL (os := OS) (ys := [.sc (.int .u8 92)]) (by simp only [go_sem, Nat.reduceEqDiff, Nat.reduceAdd, Nat.reduceLeDiff]; exact vg.new _) (by simp only [go_sem, Nat.reduceEqDiff, Nat.reduceAdd, Nat.reduceLeDiff, srcOf, elemsOf]) rfl (by rw [bp_len]; simp only [List.length_append, List.length_cons, List.length_nil]; omega) ?_
              intro p τ' hg2 kp
              have k6 := keep5 kp (by decide) (new5 (by decide) vm vc).1 (new5 (by decide) vm vc).2
              (repeat' first
    | refine w_seq ?_ | refine w_rg ?_ | refine wo_nil ?_ | refine g_skU ?_
    | ((first | apply s_plain | apply s_void | apply s_guard); · simp only [go_sem, Nat.reduceEqDiff, Nat.reduceAdd, Nat.reduceLeDiff]; (first | done | rfl))
    | ((first | apply g_T | apply g_F); · intro hb; simp only [go_sem, Nat.reduceEqDiff, Nat.reduceAdd, Nat.reduceLeDiff, hb]; (first | done | rfl))
    | ((first | apply g_gT | apply g_gF); · intro hb hc; simp only [go_sem, Nat.reduceEqDiff, Nat.reduceAdd, Nat.reduceLeDiff, hb, hc]; (first | done | rfl))
    | refine g_skT ?_ | refine g_skF ?_
    | ((first | apply g_goT | apply g_goF); · simp only [go_sem, Nat.reduceEqDiff, Nat.reduceAdd, Nat.reduceLeDiff]; (first | done | rfl))
    )
              refine ⟨rfl, ⟨?_, ?_, ?_, ?_, ⟨g5, ?_, k6.1, k6.2⟩, ?_⟩, ?_⟩
              · simp only [go_sem, Nat.reduceEqDiff, Nat.reduceAdd, Nat.reduceLeDiff, v8]
              · simp only [go_sem, Nat.reduceEqDiff, Nat.reduceAdd, Nat.reduceLeDiff, v9]
              · simp only [go_sem, Nat.reduceEqDiff, Nat.reduceAdd, Nat.reduceLeDiff, v10]
              · simp only [go_sem, Nat.reduceEqDiff, Nat.reduceAdd, Nat.reduceLeDiff, v4]
              · simp only [go_sem, Nat.reduceEqDiff, Nat.reduceAdd, Nat.reduceLeDiff, v5]
              · simp only [go_sem, Nat.reduceEqDiff, Nat.reduceAdd, Nat.reduceLeDiff]
                rw [if_pos hq, bp_app]
                exact hg2.one (by decide)
              · simp only [go_sem, Nat.reduceEqDiff, Nat.reduceAdd, Nat.reduceLeDiff, v6]
            · refine w_condF (by simp only [go_sem, Nat.reduceEqDiff, Nat.reduceAdd, Nat.reduceLeDiff, v46, decide_eq_false hq]) (w_skip ⟨rfl, ?_, v6⟩)
              rw [if_neg hq, List.append_nil]
              exact hV
          · rintro x fr τ ⟨rfl, ⟨v8, v9, v10, v4, ⟨g5, v5, vm, vc⟩, vg⟩, v6⟩
            have hcl2 : (if u = 34 ∨ u = 92 then ([92] : List UInt8) else []).length ≤ 1 := by split <;> simp
            (repeat' first
    | refine w_seq ?_ | refine w_rg ?_ | refine wo_nil ?_ | refine g_skU ?_
    | ((first | apply s_plain | apply s_void | apply s_guard); · simp only [go_sem, Nat.reduceEqDiff, Nat.reduceAdd, Nat.reduceLeDiff, v5, vm, v6, e1', Int.toNat_natCast, hu, fillE, List.replicate_succ, List.replicate_zero, List.set_cons_zero, List.set_cons_succ]; (first | done | rfl))
    | ((first | apply g_T | apply g_F); · intro hb; simp only [go_sem, Nat.reduceEqDiff, Nat.reduceAdd, Nat.reduceLeDiff, v5, vm, v6, e1', Int.toNat_natCast, hu, fillE, List.replicate_succ, List.replicate_zero, List.set_cons_zero, List.set_cons_succ, hb]; (first | done | rfl))
    | ((first | apply g_gT | apply g_gF); · intro hb hc; simp only [go_sem, Nat.reduceEqDiff, Nat.reduceAdd, Nat.reduceLeDiff, v5, vm, v6, e1', Int.toNat_natCast, hu, fillE, List.replicate_succ, List.replicate_zero, List.set_cons_zero, List.set_cons_succ, hb, hc]; (first | done | rfl))
    | refine g_skT ?_ | refine g_skF ?_
    | ((first | apply g_goT | apply g_goF); · simp only [go_sem, Nat.reduceEqDiff, Nat.reduceAdd, Nat.reduceLeDiff, v5, vm, v6, e1', Int.toNat_natCast, hu, fillE, List.replicate_succ, List.replicate_zero, List.set_cons_zero, List.set_cons_succ]; (first | done | rfl))
    )
            refine s_gatL (os := OS) (ys := [.sc (.int .u8 u.toNat)]) (by simp only [go_sem, Nat.reduceEqDiff, Nat.reduceAdd, Nat.reduceLeDiff]; exact vg.new _) (by simp only [go_sem, Nat.reduceEqDiff, Nat.reduceAdd, Nat.reduceLeDiff, srcOf, elemsOf]) rfl (by rw [bp_len]; simp only [List.length_append, List.length_cons, List.length_nil]; omega) ?_
            intro p τ' hg2 kp
            have k6 := keep5 kp (by decide) (new5 (by decide) vm vc).1 (new5 (by decide) vm vc).2
            (repeat' first
    | refine w_seq ?_ | refine w_rg ?_ | refine wo_nil ?_ | refine g_skU ?_
    | ((first | apply s_plain | apply s_void | apply s_guard); · simp only [go_sem, Nat.reduceEqDiff, Nat.reduceAdd, Nat.reduceLeDiff, v6, e2]; (first | done | rfl))
    | ((first | apply g_T | apply g_F); · intro hb; simp only [go_sem, Nat.reduceEqDiff, Nat.reduceAdd, Nat.reduceLeDiff, v6, e2, hb]; (first | done | rfl))
    | ((first | apply g_gT | apply g_gF); · intro hb hc; simp only [go_sem, Nat.reduceEqDiff, Nat.reduceAdd, Nat.reduceLeDiff, v6, e2, hb, hc]; (first | done | rfl))
    | refine g_skT ?_ | refine g_skF ?_
    | ((first | apply g_goT | apply g_goF); · simp only [go_sem, Nat.reduceEqDiff, Nat.reduceAdd, Nat.reduceLeDiff, v6, e2]; (first | done | rfl))
    | (refine w_condT ?_ ?_; · simp only [go_sem, Nat.reduceEqDiff, Nat.reduceAdd, Nat.reduceLeDiff, v6, e2]; (first | done | rfl))
    | (refine w_condF ?_ ?_; · simp only [go_sem, Nat.reduceEqDiff, Nat.reduceAdd, Nat.reduceLeDiff, v6, e2]; (first | done | rfl))
    | refine w_skip ?_ | refine w_exit ?_ | refine w_ret ?_
    )
            refine ⟨hlt, ⟨?_, ?_, ?_, ?_, ⟨g5, ?_, k6.1, k6.2⟩, ?_⟩, ?_⟩
            · simp only [go_sem, Nat.reduceEqDiff, Nat.reduceAdd, Nat.reduceLeDiff, v8]
            · simp only [go_sem, Nat.reduceEqDiff, Nat.reduceAdd, Nat.reduceLeDiff, v9]
            · simp only [go_sem, Nat.reduceEqDiff, Nat.reduceAdd, Nat.reduceLeDiff, v10]
            · simp only [go_sem, Nat.reduceEqDiff, Nat.reduceAdd, Nat.reduceLeDiff, v4]
            · simp only [go_sem, Nat.reduceEqDiff, Nat.reduceAdd, Nat.reduceLeDiff, v5]
            · simp only [go_sem, Nat.reduceEqDiff, Nat.reduceAdd, Nat.reduceLeDiff]
              rw [esc_succ hu, ← List.append_assoc, ← List.append_assoc, bp_app]
              exact hg2.one (by decide)
            · simp only [go_sem, Nat.reduceEqDiff, Nat.reduceAdd, Nat.reduceLeDiff]
        · have hd : decide ((k : Int) < (m.2.size : Int)) = false := decide_eq_false (by omega)
          have h0 : m.2.data.toList.length = m.2.size := by simp
          have hkn : m.2.data.toList.take k = m.2.data.toList := List.take_of_length_le (by omega)
          rw [hkn] at hV hel
          obtain ⟨v8, v9, v10, v4, ⟨g5, v5, vm, vc⟩, vg⟩ := hV
          (repeat' first
    | refine w_seq ?_ | refine w_rg ?_ | refine wo_nil ?_ | refine g_skU ?_
    | ((first | apply s_plain | apply s_void | apply s_guard); · simp only [go_sem, Nat.reduceEqDiff, Nat.reduceAdd, Nat.reduceLeDiff, v5, vm, v6, hd, fillE, List.replicate_succ, List.replicate_zero, List.set_cons_zero, List.set_cons_succ]; (first | done | rfl))
    | ((first | apply g_T | apply g_F); · intro hb; simp only [go_sem, Nat.reduceEqDiff, Nat.reduceAdd, Nat.reduceLeDiff, v5, vm, v6, hd, fillE, List.replicate_succ, List.replicate_zero, List.set_cons_zero, List.set_cons_succ, hb]; (first | done | rfl))
    | ((first | apply g_gT | apply g_gF); · intro hb hc; simp only [go_sem, Nat.reduceEqDiff, Nat.reduceAdd, Nat.reduceLeDiff, v5, vm, v6, hd, fillE, List.replicate_succ, List.replicate_zero, List.set_cons_zero, List.set_cons_succ, hb, hc]; (first | done | rfl))
    | refine g_skT ?_ | refine g_skF ?_
    | ((first | apply g_goT | apply g_goF); · simp only [go_sem, Nat.reduceEqDiff, Nat.reduceAdd, Nat.reduceLeDiff, v5, vm, v6, hd, fillE, List.replicate_succ, List.replicate_zero, List.set_cons_zero, List.set_cons_succ]; (first | done | rfl))
    | (refine w_condT ?_ ?_; · simp only [go_sem, Nat.reduceEqDiff, Nat.reduceAdd, Nat.reduceLeDiff, v5, vm, v6, hd, fillE, List.replicate_succ, List.replicate_zero, List.set_cons_zero, List.set_cons_succ]; (first | done | rfl))
    | (refine w_condF ?_ ?_; · simp only [go_sem, Nat.reduceEqDiff, Nat.reduceAdd, Nat.reduceLeDiff, v5, vm, v6, hd, fillE, List.replicate_succ, List.replicate_zero, List.set_cons_zero, List.set_cons_succ]; (first | done | rfl))
    | refine w_skip ?_ | refine w_exit ?_ | refine w_ret ?_
    )
          try simp only [if_true]
          (repeat' first
    | refine w_seq ?_ | refine w_rg ?_ | refine wo_nil ?_ | refine g_skU ?_
    | ((first | apply s_plain | apply s_void | apply s_guard); · simp only [go_sem, Nat.reduceEqDiff, Nat.reduceAdd, Nat.reduceLeDiff, fillE, List.replicate_succ, List.replicate_zero, List.set_cons_zero, List.set_cons_succ]; (first | done | rfl))
    | ((first | apply g_T | apply g_F); · intro hb; simp only [go_sem, Nat.reduceEqDiff, Nat.reduceAdd, Nat.reduceLeDiff, fillE, List.replicate_succ, List.replicate_zero, List.set_cons_zero, List.set_cons_succ, hb]; (first | done | rfl))
    | ((first | apply g_gT | apply g_gF); · intro hb hc; simp only [go_sem, Nat.reduceEqDiff, Nat.reduceAdd, Nat.reduceLeDiff, fillE, List.replicate_succ, List.replicate_zero, List.set_cons_zero, List.set_cons_succ, hb, hc]; (first | done | rfl))
    | refine g_skT ?_ | refine g_skF ?_
    | ((first | apply g_goT | apply g_goF); · simp only [go_sem, Nat.reduceEqDiff, Nat.reduceAdd, Nat.reduceLeDiff, fillE, List.replicate_succ, List.replicate_zero, List.set_cons_zero, List.set_cons_succ]; (first | done | rfl))
    )
          refine s_gatL (os := OS) (ys := [.sc (.int .u8 34)]) (by simp only [go_sem, Nat.reduceEqDiff, Nat.reduceAdd, Nat.reduceLeDiff]; exact vg.new _) (by simp only [go_sem, Nat.reduceEqDiff, Nat.reduceAdd, Nat.reduceLeDiff, srcOf, elemsOf]) rfl (by rw [bp_len]; simp only [List.length_append, List.length_cons, List.length_nil]; omega) ?_
          intro p τ' hg2 kp
          (repeat' first
    | refine w_seq ?_ | refine w_rg ?_ | refine wo_nil ?_ | refine g_skU ?_
    | ((first | apply s_plain | apply s_void | apply s_guard); · simp only [go_sem, Nat.reduceEqDiff, Nat.reduceAdd, Nat.reduceLeDiff]; (first | done | rfl))
    | ((first | apply g_T | apply g_F); · intro hb; simp only [go_sem, Nat.reduceEqDiff, Nat.reduceAdd, Nat.reduceLeDiff, hb]; (first | done | rfl))
    | ((first | apply g_gT | apply g_gF); · intro hb hc; simp only [go_sem, Nat.reduceEqDiff, Nat.reduceAdd, Nat.reduceLeDiff, hb, hc]; (first | done | rfl))
    | refine g_skT ?_ | refine g_skF ?_
    | ((first | apply g_goT | apply g_goF); · simp only [go_sem, Nat.reduceEqDiff, Nat.reduceAdd, Nat.reduceLeDiff]; (first | done | rfl))
    )
          refine ⟨⟨?_, ?_⟩, ?_, ?_⟩
          · simp only [go_sem, Nat.reduceEqDiff, Nat.reduceAdd, Nat.reduceLeDiff, v8]
          · simp only [go_sem, Nat.reduceEqDiff, Nat.reduceAdd, Nat.reduceLeDiff]
            rw [hsuc', bp_app]
            exact hg2.one (by decide)
          · simp only [go_sem, Nat.reduceEqDiff, Nat.reduceAdd, Nat.reduceLeDiff, v10]
          · simp only [go_sem, Nat.reduceEqDiff, Nat.reduceAdd, Nat.reduceLeDiff, v9]
      · refine ⟨⟨?_, ?_, ?_, ?_, ⟨g5, ?_, m2.1, m2.2⟩, ?_⟩, ?_⟩
        · simp only [go_sem, Nat.reduceEqDiff, Nat.reduceAdd, Nat.reduceLeDiff, w8]
        · simp only [go_sem, Nat.reduceEqDiff, Nat.reduceAdd, Nat.reduceLeDiff, w9]
        · simp only [go_sem, Nat.reduceEqDiff, Nat.reduceAdd, Nat.reduceLeDiff, w10]
        · simp only [go_sem, Nat.reduceEqDiff, Nat.reduceAdd, Nat.reduceLeDiff, w4]
        · simp only [go_sem, Nat.reduceEqDiff, Nat.reduceAdd, Nat.reduceLeDiff, w5]
        · simp only [go_sem, Nat.reduceEqDiff, Nat.reduceAdd, Nat.reduceLeDiff]
          have : esc [] = [] := rfl
          rw [this, List.append_nil]
          exact q2'
        · simp only [go_sem, Nat.reduceEqDiff, Nat.reduceAdd, Nat.reduceLeDiff]; (first | done | rfl)
  · rintro fr σ ⟨f8, hg⟩
    try simp only [if_true]
    have hp0 := hpl l.length
    (repeat' first
    | refine w_seq ?_ | refine w_rg ?_ | refine wo_nil ?_ | refine g_skU ?_
    | ((first | apply s_plain | apply s_void | apply s_guard); · simp only [go_sem, Nat.reduceEqDiff, Nat.reduceAdd, Nat.reduceLeDiff, fillE, List.replicate_succ, List.replicate_zero, List.set_cons_zero, List.set_cons_succ]; (first | done | rfl))
    | ((first | apply g_T | apply g_F); · intro hb; simp only [go_sem, Nat.reduceEqDiff, Nat.reduceAdd, Nat.reduceLeDiff, fillE, List.replicate_succ, List.replicate_zero, List.set_cons_zero, List.set_cons_succ, hb]; (first | done | rfl))
    | ((first | apply g_gT | apply g_gF); · intro hb hc; simp only [go_sem, Nat.reduceEqDiff, Nat.reduceAdd, Nat.reduceLeDiff, fillE, List.replicate_succ, List.replicate_zero, List.set_cons_zero, List.set_cons_succ, hb, hc]; (first | done | rfl))
    | refine g_skT ?_ | refine g_skF ?_
    | ((first | apply g_goT | apply g_goF); · simp only [go_sem, Nat.reduceEqDiff, Nat.reduceAdd, Nat.reduceLeDiff, fillE, List.replicate_succ, List.replicate_zero, List.set_cons_zero, List.set_cons_succ]; (first | done | rfl))
    )
    refine s_gatL (os := OS) (ys := [.sc (.int .u8 125)]) (by simp only [go_sem, Nat.reduceEqDiff, Nat.reduceAdd, Nat.reduceLeDiff]; exact hg.new _) (by simp only [go_sem, Nat.reduceEqDiff, Nat.reduceAdd, Nat.reduceLeDiff, srcOf, elemsOf]) rfl (by rw [bp_len]; simp only [List.length_cons, List.length_nil]; omega) ?_
    intro p τ hg2 kp
    have hE := gat_elems hg2
    have hE2 : elemsOf τ p = some (bp (preT l l.length ++ [125])) := by rw [hE, bp_app]; rfl
    have hB := bp_back (preT l l.length ++ [125])
    have hT : (⟨(preT l l.length ++ [125]).toArray⟩ : ByteArray) = textS l := by
      refine Go.WideShapes.bytes_inj ?_
      simp [textS, bodyS, preT, ByteArray.data_append]
    (repeat' first
    | refine w_seq ?_ | refine w_rg ?_ | refine wo_nil ?_ | refine g_skU ?_
    | ((first | apply s_plain | apply s_void | apply s_guard); · simp only [go_sem, Nat.reduceEqDiff, Nat.reduceAdd, Nat.reduceLeDiff, hE2, hB, hT]; (first | done | rfl))
    | ((first | apply g_T | apply g_F); · intro hb; simp only [go_sem, Nat.reduceEqDiff, Nat.reduceAdd, Nat.reduceLeDiff, hE2, hB, hT, hb]; (first | done | rfl))
    | ((first | apply g_gT | apply g_gF); · intro hb hc; simp only [go_sem, Nat.reduceEqDiff, Nat.reduceAdd, Nat.reduceLeDiff, hE2, hB, hT, hb, hc]; (first | done | rfl))
    | refine g_skT ?_ | refine g_skF ?_
    | ((first | apply g_goT | apply g_goF); · simp only [go_sem, Nat.reduceEqDiff, Nat.reduceAdd, Nat.reduceLeDiff, hE2, hB, hT]; (first | done | rfl))
    | (refine w_condT ?_ ?_; · simp only [go_sem, Nat.reduceEqDiff, Nat.reduceAdd, Nat.reduceLeDiff, hE2, hB, hT]; (first | done | rfl))
    | (refine w_condF ?_ ?_; · simp only [go_sem, Nat.reduceEqDiff, Nat.reduceAdd, Nat.reduceLeDiff, hE2, hB, hT]; (first | done | rfl))
    | refine w_skip ?_ | refine w_exit ?_ | refine w_ret ?_
    )
    exact ⟨.inr rfl, by simp only [go_sem, Nat.reduceEqDiff, Nat.reduceAdd, Nat.reduceLeDiff, retOf, resOf]; first | done | rfl⟩
  · refine ⟨by simp only [go_sem, Nat.reduceEqDiff, Nat.reduceAdd, Nat.reduceLeDiff], ?_⟩
    simp only [go_sem, Nat.reduceEqDiff, Nat.reduceAdd, Nat.reduceLeDiff]
    exact .inr ⟨7, 0, true, by decide, rfl, by simp only [go_sem, Nat.reduceEqDiff, Nat.reduceAdd, Nat.reduceLeDiff]; first | done | rfl, by simp only [go_sem, Nat.reduceEqDiff, Nat.reduceAdd, Nat.reduceLeDiff]; first | done | omega, by simp [bp, preT], fun h => by cases h⟩
  · simp only [go_sem, Nat.reduceEqDiff, Nat.reduceAdd, Nat.reduceLeDiff]
  · simp only [go_sem, Nat.reduceEqDiff, Nat.reduceAdd, Nat.reduceLeDiff, hll]
end
end Go.Proofs.YtjijlmfhnkipmaaDoorPv
namespace Go.Proofs.YtjijlmfhnkipmaaDoorPv
open Go
set_option linter.unusedSimpArgs false
set_option linter.unusedVariables false
set_option maxHeartbeats 4000000
attribute [local go_sem ↓] e_mv e_pick e_bin e_eqs e_beq e_un e_cvi e_str e_s2b e_b2s e_box e_build e_bsl e_ld e_st e_nck e_mkf e_slcS e_slcL e_fa e_fld e_ia e_iaa e_ix e_ixa e_ext e_lenS e_lenL e_mnmx e_app e_appb e_bbx e_msl e_clr e_call e_callv pa_t pa_c pa_f slcSP_str hiOf_some hiOf_none loOf_some loOf_none set_eq set_ne
attribute [local go_sem] pv pv1 simple frOf_0 frOf_1 frOf_2 frOf_3 frOf_4 frOf_5 ne_eq not_false_eq_true if_true Bool.false_eq_true if_false pbin punary Option.map_some Option.bind_some pick_and pick_or opt_true Bool.true_and Bool.and_self Bool.and_true Bool.true_or Bool.false_or Bool.not_true Bool.not_false callE pcall_eq List.map_cons List.map_nil List.append_nil List.nil_append List.cons_append mapM_cons' mapM_nil' dep_eq fz_sc fz_sl fz_em fz_fn fz_fp fz_agg fz_tu fz_bx fz_ob Nat.lt_irrefl Nat.zero_lt_one Nat.lt_add_one flat clL cl Bool.or_true okc_sc okc_em okc_sl okc_ob okc_bx okc_fp okc_fn okc_agg okc_ifc cells_agg cells_sc cells_sl cells_em cells_ob cells_fn cells_bx cells_fp List.length_cons List.length_nil Nat.zero_add and_self true_and and_true new_m new_c put_m put_c nil_m nil_c deref List.getElem?_cons_zero List.getElem?_cons_succ List.drop_zero List.drop_succ_cons List.take_succ_cons List.take_zero Nat.le_refl false_and and_false decide_true decide_false
set_option maxRecDepth 8000
section
/-- A label, of its bytes. -/
def mkLab (n v : List UInt8) : Lab := (⟨n.toArray⟩, ⟨v.toArray⟩)
/-- The labels that are read off, one by one; none: one could not be. -/
def pl : Nat → List UInt8 → List Lab → Option (List Lab)
  | 0, _, out => some out
  | k + 1, rest, out => if rest = [125] then some out else if out ≠ [] ∧ [44].isPrefixOf rest = false then none else
      (oneL (if out = [] then rest else cutPre rest [44])).bind fun q => pl k q.2.2 (out ++ [mkLab q.1 q.2.1])
/-- What a text is read as. -/
def parseS (s : List UInt8) : List Lab × Int := if [123].isPrefixOf s then (match pl 9 (s.drop 1) [] with
  | some out => if rightL out = true ∧ (textS out).data.toList = s then (out, 0) else ([], 6)
  | none => ([], 6)) else ([], 6)
theorem scan_esc' : ∀ (v : List UInt8) (acc t : List UInt8), scan (esc v ++ 34 :: t) acc = some (acc ++ v, t)
  | [], acc, t => by
    simp only [esc, List.flatMap_nil, List.nil_append, List.append_nil]
    cases t <;> simp [scan]
  | b :: v, acc, t => by
    have ih := scan_esc' v (acc ++ [b]) t
    have e : esc (b :: v) = (if b = 34 ∨ b = 92 then [92, b] else [b]) ++ esc v := by simp [esc]
    rw [e]
    split
    · rename_i h
      show scan (92 :: b :: (esc v ++ 34 :: t)) acc = _
      rw [scan, if_neg (by decide), if_pos rfl, ih]
      simp
    · rename_i h
      have h1 : b ≠ 34 := fun e => h (.inl e)
      have h2 : b ≠ 92 := fun e => h (.inr e)
      have hne : ∃ c r, esc v ++ 34 :: t = c :: r := by
        cases hq : esc v ++ 34 :: t with
        | nil => simp at hq
        | cons c r => exact ⟨c, r, rfl⟩
      obtain ⟨c, r, hcr⟩ := hne
      show scan (b :: (esc v ++ 34 :: t)) acc = _
      rw [hcr] at ih ⊢
      rw [scan, if_neg h1, if_neg h2, ih]
      simp
/-- A name's bytes: no sign of equality among them. -/
def NoEq (n : List UInt8) : Prop := ∀ b ∈ n, b ≠ 61
theorem occ_at (n t : List UInt8) : Lib.occAt (n ++ 61 :: 34 :: t) [61, 34] n.length = true := by
  simp [Lib.occAt, List.isPrefixOf]
theorem occ_not {n t : List UInt8} (h : NoEq n) {j : Nat} (hj : j < n.length) : Lib.occAt (n ++ 61 :: 34 :: t) [61, 34] j = false := by
  unfold Lib.occAt
  have hl : j < (n ++ 61 :: 34 :: t).length := by simp; omega
  rw [drop_at hl, List.getElem_append_left hj]
  have := h n[j] (List.getElem_mem hj)
  simp [List.isPrefixOf, Ne.symm this]
theorem cut_eq {n t : List UInt8} (h : NoEq n) : Lib.cut (n ++ 61 :: 34 :: t) [61, 34] = (n, t, true) := by
  have hi : Lib.index (n ++ 61 :: 34 :: t) [61, 34] = n.length := Lib.index_first (by simp) (occ_at n t) (fun j hj => occ_not h hj)
  unfold Lib.cut
  rw [hi, if_pos (by omega)]
  simp only [Int.toNat_natCast, Prod.mk.injEq, and_true]
  refine ⟨by simp, ?_⟩
  rw [List.drop_append, List.drop_eq_nil_of_le (by simp)]
  simp
theorem oneL_mark {n v t : List UInt8} (h : NoEq n) : oneL (n ++ 61 :: 34 :: (esc v ++ 34 :: t)) = some (n, v, t) := by
  unfold oneL
  rw [cut_eq h]
  simp only [if_true]
  rw [scan_esc']
  rfl
/-- A row of labels as they stand behind one another. -/
def tailB : List Lab → List UInt8
  | [] => [125]
  | m :: r => 44 :: (m.1.data.toList ++ 61 :: 34 :: (esc m.2.data.toList ++ 34 :: tailB r))
theorem mk_eta (m : Lab) : mkLab m.1.data.toList m.2.data.toList = m := by
  unfold mkLab
  rw [ba_eta, ba_eta]
theorem tail_one (l : List Lab) : (tailB l = [125]) ↔ l = [] := by
  cases l <;> simp [tailB]
theorem pl_tail : ∀ (k : Nat) (l out : List Lab), (∀ m ∈ l, NoEq m.1.data.toList) → out ≠ [] → l.length ≤ k → pl k (tailB l) out = some (out ++ l)
  | 0, l, out, _, _, hk => by
    have : l = [] := List.eq_nil_of_length_eq_zero (by omega)
    subst this; simp [pl]
  | k + 1, [], out, _, _, _ => by simp [pl, tailB]
  | k + 1, m :: r, out, h, ho, hk => by
    have hm := h m (by simp)
    rw [pl, if_neg (by simp [tailB]), if_neg (by simp [tailB, List.isPrefixOf]), if_neg ho]
    have hc : cutPre (tailB (m :: r)) [44] = m.1.data.toList ++ 61 :: 34 :: (esc m.2.data.toList ++ 34 :: tailB r) := by
      simp [cutPre, tailB, List.isPrefixOf]
    rw [hc, oneL_mark hm, Option.bind_some, mk_eta, pl_tail k r (out ++ [m]) (fun x hx => h x (by simp [hx])) (by simp) (by simp at hk; omega)]
    simp
theorem join_cc (a b sep : List UInt8) (c : List (List UInt8)) : Lib.join (a :: b :: c) sep = a ++ sep ++ Lib.join (b :: c) sep := by
  simp [Lib.join, List.intercalate]
theorem text_bytes (l : List Lab) : (textS l).data.toList = 123 :: (match tailB l with
    | 44 :: r => r
    | r => r) := by
  have key : ∀ l : List Lab, Lib.join (l.map fun m => (markS m).data.toList) [44] ++ [125] = match tailB l with
    | 44 :: r => r
    | r => r := by
    intro l
    induction l with
    | nil => rfl
    | cons m r ih =>
      cases r with
      | nil => simp [Lib.join, tailB, mark_bytes]
      | cons m2 r2 =>
        simp only [List.map_cons] at ih ⊢
        rw [join_cc, List.append_assoc, ih]
        simp [tailB, mark_bytes]
  rw [← key l]
  unfold textS bodyS
  simp [ByteArray.data_append]
theorem name_noEq {s : ByteArray} (h : nameB s = true) : NoEq s.data.toList := by
  intro b hb e
  subst e
  obtain ⟨i, hi⟩ := List.getElem?_of_mem hb
  have hlt : i < s.size := by simpa using (List.getElem?_eq_some_iff.1 hi).1
  unfold nameB at h
  simp only [Bool.and_eq_true, Bool.not_eq_true', decide_eq_false_iff_not] at h
  have hbad := found_no h.1 i hlt
  have hat : byteAt s i = 61 := by unfold byteAt; rw [hi]; rfl
  unfold badN at hbad
  rw [hat, show letterB 61 = false from by decide, show (decide ((61 : Int) > 57)) = true from by decide] at hbad
  simp at hbad
theorem right_noEq {l : List Lab} (h : rightL l = true) : ∀ m ∈ l, NoEq m.1.data.toList := by
  obtain ⟨hmay, _, _⟩ := right_iff.1 h
  intro m hm
  have := hmay m hm
  unfold mayB at this
  simp only [Bool.and_eq_true] at this
  exact name_noEq this.1
/-- A set's text is read as it. -/
theorem parse_text {l : List Lab} (h : rightL l = true) : parseS (textS l).data.toList = (l, 0) := by
  have hne := right_noEq h
  obtain ⟨_, _, h8⟩ := right_iff.1 h
  have hp : pl 9 ((textS l).data.toList.drop 1) [] = some l := by
    rw [text_bytes]
    cases l with
    | nil => simp [tailB, pl]
    | cons m r =>
      simp only [tailB, List.drop_succ_cons, List.drop_zero]
      have hm := hne m (by simp)
      have hx : m.1.data.toList ++ 61 :: 34 :: (esc m.2.data.toList ++ 34 :: tailB r) ≠ [125] := by
        intro e
        have := congrArg List.length e
        simp at this
        omega
      rw [pl, if_neg hx, if_neg (by simp), if_pos rfl, oneL_mark hm, Option.bind_some, mk_eta]
      simp only [List.nil_append]
      rw [pl_tail 8 r [m] (fun x hx => hne x (by simp [hx])) (by simp) (by simp at h8; omega)]
      rfl
  unfold parseS
  rw [if_pos (by rw [text_bytes]; rfl), hp]
  simp only
  rw [if_pos ⟨h, trivial⟩]
theorem parse_ok {s : List UInt8} {l : List Lab} (h : parseS s = (l, 0)) : rightL l = true ∧ (textS l).data.toList = s := by
  unfold parseS at h
  split at h
  · split at h
    · split at h
      · rename_i hq
        simp only [Prod.mk.injEq, and_true] at h
        subst h
        exact hq
      · simp at h
    · simp at h
  · simp at h
theorem parse_bad {s : List UInt8} (h : (parseS s).2 ≠ 0) : parseS s = ([], 6) := by
  unfold parseS at h ⊢
  split
  · rename_i h1
    rw [if_pos h1] at h
    split
    · rename_i out ho
      rw [ho] at h
      simp only at h
      split
      · rename_i hq
        rw [if_pos hq] at h
        simp at h
      · rfl
    · rfl
  · rfl
end
end Go.Proofs.YtjijlmfhnkipmaaDoorPv
namespace Go.Proofs.YtjijlmfhnkipmaaDoorPv
open Go
set_option linter.unusedSimpArgs false
set_option linter.unusedVariables false
set_option maxHeartbeats 4000000
attribute [local go_sem ↓] e_mv e_pick e_bin e_eqs e_beq e_un e_cvi e_str e_s2b e_b2s e_box e_build e_bsl e_ld e_st e_nck e_mkf e_slcS e_slcL e_fa e_fld e_ia e_iaa e_ix e_ixa e_ext e_lenS e_lenL e_mnmx e_app e_appb e_bbx e_msl e_clr e_call e_callv pa_t pa_c pa_f slcSP_str hiOf_some hiOf_none loOf_some loOf_none set_eq set_ne
attribute [local go_sem] pv pv1 simple frOf_0 frOf_1 frOf_2 frOf_3 frOf_4 frOf_5 ne_eq not_false_eq_true if_true Bool.false_eq_true if_false pbin punary Option.map_some Option.bind_some pick_and pick_or opt_true Bool.true_and Bool.and_self Bool.and_true Bool.true_or Bool.false_or Bool.not_true Bool.not_false callE pcall_eq List.map_cons List.map_nil List.append_nil List.nil_append List.cons_append mapM_cons' mapM_nil' dep_eq fz_sc fz_sl fz_em fz_fn fz_fp fz_agg fz_tu fz_bx fz_ob Nat.lt_irrefl Nat.zero_lt_one Nat.lt_add_one flat clL cl Bool.or_true okc_sc okc_em okc_sl okc_ob okc_bx okc_fp okc_fn okc_agg okc_ifc cells_agg cells_sc cells_sl cells_em cells_ob cells_fn cells_bx cells_fp List.length_cons List.length_nil Nat.zero_add and_self true_and and_true new_m new_c put_m put_c nil_m nil_c deref List.getElem?_cons_zero List.getElem?_cons_succ List.drop_zero List.drop_succ_cons List.take_succ_cons List.take_zero Nat.le_refl false_and and_false decide_true decide_false lenP_em lenP_nil lenP_sl lenP_ob Int.ofNat_zero
set_option maxRecDepth 8000
/-- transhipment/transhipmentref03.New -/
def d242 : Def := (.code 1 [.tmp 2, .tmp 3] (.seq (.rg false [⟨.some 2, .none, .mv (.c (.slice .none 0 0))⟩, ⟨.some 3, .none, .mv (.c (.int .i64 0))⟩]) (.seq (.seq (.rg false [⟨.some 7, .none, .mv (.t 0)⟩, ⟨.some 8, .none, .lenL (.t 7)⟩, ⟨.some 9, .none, .bin .gtr (.t 8) (.c (.int .i64 8))⟩]) (.cond (.t 9) (.seq (.rg false [⟨.some 2, .none, .mv (.c (.slice .none 0 0))⟩, ⟨.some 3, .none, .mv (.c (.int .i64 2))⟩]) .ret) .skip)) (.seq (.seq (.rg false [⟨.some 10, .none, .mv (.t 0)⟩, ⟨.some 11, .none, .lenL (.t 10)⟩, ⟨.some 12, .none, .mv (.c (.int .i64 0))⟩]) (.block 0 (.loop (.seq (.rg false [⟨.some 13, .none, .bin .lss (.t 12) (.t 11)⟩]) (.seq (.cond (.t 13) .skip (.exit 0)) (.seq (.block 1 (.seq (.rg false [⟨.some 14, .none, .ia 2 (.t 10) (.t 12)⟩, ⟨.some 15, .none, .ld (.some 2) (.t 14)⟩, ⟨.some 5, .none, .box (.c (.agg #[.string ⟨#[]⟩, .string ⟨#[]⟩]))⟩, ⟨.none, .none, .st 2 (.t 5) (.t 15)⟩]) (.seq (.rg false [⟨.some 16, .none, .fa 0 (.t 5)⟩, ⟨.some 17, .none, .ld .none (.t 16)⟩, ⟨.some 18, .none, .call 117 .pure [.t 17]⟩, ⟨.some 19, .none, .un .not (.t 18)⟩, ⟨.some 20, .none, .mv (.t 19)⟩, ⟨.some 21, .some (20, false), .fa 1 (.t 5)⟩, ⟨.some 22, .some (20, false), .ld .none (.t 21)⟩, ⟨.some 23, .some (20, false), .call 118 .pure [.t 22]⟩, ⟨.some 24, .some (20, false), .un .not (.t 23)⟩, ⟨.some 25, .none, .pick (.t 20) (.c (.bool true)) (.t 24)⟩]) (.cond (.t 25) (.seq (.rg false [⟨.some 2, .none, .mv (.c (.slice .none 0 0))⟩, ⟨.some 3, .none, .mv (.c (.int .i64 1))⟩]) .ret) .skip)))) (.rg false [⟨.some 26, .none, .bin .add (.t 12) (.c (.int .i64 1))⟩, ⟨.some 12, .none, .mv (.t 26)⟩]))))))) (.seq (.rg false [⟨.some 27, .none, .mv (.t 0)⟩, ⟨.some 28, .none, .call 201 .pure [.t 27]⟩, ⟨.some 6, .none, .mv (.t 28)⟩]) (.seq (.seq (.rg false [⟨.some 29, .none, .mv (.t 6)⟩, ⟨.some 30, .none, .call 110 .pure [.t 29]⟩, ⟨.some 31, .none, .un .not (.t 30)⟩]) (.cond (.t 31) (.seq (.rg false [⟨.some 2, .none, .mv (.c (.slice .none 0 0))⟩, ⟨.some 3, .none, .mv (.c (.int .i64 10))⟩]) .ret) .skip)) (.seq (.rg false [⟨.some 32, .none, .mv (.t 6)⟩, ⟨.some 2, .none, .mv (.t 32)⟩, ⟨.some 3, .none, .mv (.c (.int .i64 0))⟩]) .ret)))))))
/-- transhipment/transhipmentlaw03.LabelSets -/
def d235 : Def := (.code 2 [.tmp 4] (.seq (.rg false [⟨.some 4, .none, .mv (.c (.bool false))⟩]) (.seq (.rg false [⟨.some 11, .none, .mv (.t 0)⟩, ⟨.some 12, .none, .call 241 .pure [.t 11]⟩, ⟨.some 0, .none, .mv (.t 12)⟩]) (.seq (.rg false [⟨.some 14, .none, .mv (.t 0)⟩, ⟨.some 15, .none, .call 129 .pure [.t 14]⟩, ⟨.some 13, .none, .mv (.t 15)⟩, ⟨.some 16, .none, .ext (.t 13) 0⟩, ⟨.some 17, .none, .ext (.t 13) 1⟩, ⟨.some 5, .none, .mv (.t 16)⟩, ⟨.some 6, .none, .mv (.t 17)⟩]) (.seq (.rg false [⟨.some 19, .none, .mv (.t 0)⟩, ⟨.some 20, .none, .call 242 .pure [.t 19]⟩, ⟨.some 18, .none, .mv (.t 20)⟩, ⟨.some 21, .none, .ext (.t 18) 0⟩, ⟨.some 22, .none, .ext (.t 18) 1⟩, ⟨.some 7, .none, .mv (.t 21)⟩, ⟨.some 8, .none, .mv (.t 22)⟩]) (.seq (.rg false [⟨.some 24, .none, .mv (.t 0)⟩, ⟨.some 25, .none, .call 202 .pure [.t 24]⟩, ⟨.some 23, .none, .mv (.t 25)⟩, ⟨.some 26, .none, .ext (.t 23) 0⟩, ⟨.some 27, .none, .ext (.t 23) 1⟩, ⟨.some 9, .none, .mv (.t 26)⟩, ⟨.some 10, .none, .mv (.t 27)⟩]) (.seq (.seq (.rg false [⟨.some 28, .none, .mv (.t 0)⟩, ⟨.some 29, .none, .call 113 .pure [.t 28]⟩, ⟨.some 30, .none, .mv (.t 0)⟩, ⟨.some 31, .none, .call 110 .pure [.t 30]⟩, ⟨.some 32, .none, .beq true (.t 29) (.t 31)⟩, ⟨.some 33, .none, .mv (.t 32)⟩, ⟨.some 34, .some (33, false), .mv (.t 6)⟩, ⟨.some 35, .some (33, false), .mv (.t 8)⟩, ⟨.some 36, .some (33, false), .bin .neq (.t 34) (.t 35)⟩, ⟨.some 37, .none, .pick (.t 33) (.c (.bool true)) (.t 36)⟩, ⟨.some 38, .none, .mv (.t 37)⟩, ⟨.some 39, .some (38, false), .mv (.t 5)⟩, ⟨.some 40, .some (38, false), .mv (.t 7)⟩, ⟨.some 41, .some (38, false), .call 192 .pure [.t 39, .t 40]⟩, ⟨.some 42, .some (38, false), .un .not (.t 41)⟩, ⟨.some 43, .none, .pick (.t 38) (.c (.bool true)) (.t 42)⟩, ⟨.some 44, .none, .mv (.t 43)⟩, ⟨.some 45, .some (44, false), .mv (.t 0)⟩, ⟨.some 46, .some (44, false), .mv (.t 1)⟩, ⟨.some 47, .some (44, false), .call 114 .pure [.t 45, .t 46]⟩, ⟨.some 48, .some (44, false), .mv (.t 0)⟩, ⟨.some 49, .some (44, false), .mv (.t 1)⟩, ⟨.some 50, .some (44, false), .call 200 .pure [.t 48, .t 49]⟩, ⟨.some 51, .some (44, false), .bin .neq (.t 47) (.t 50)⟩, ⟨.some 52, .none, .pick (.t 44) (.c (.bool true)) (.t 51)⟩, ⟨.some 53, .none, .mv (.t 52)⟩, ⟨.some 54, .some (53, false), .call 240 .pure []⟩, ⟨.some 55, .some (53, false), .un .not (.t 54)⟩, ⟨.some 56, .none, .pick (.t 53) (.c (.bool true)) (.t 55)⟩]) (.cond (.t 56) (.seq (.rg false [⟨.some 4, .none, .mv (.c (.bool false))⟩]) .ret) .skip)) (.seq (.seq (.rg false [⟨.some 57, .none, .mv (.t 0)⟩, ⟨.some 58, .none, .call 110 .pure [.t 57]⟩, ⟨.some 59, .none, .un .not (.t 58)⟩]) (.cond (.t 59) (.seq (.rg false [⟨.some 60, .none, .mv (.t 10)⟩, ⟨.some 61, .none, .bin .eql (.t 60) (.c (.int .i64 1))⟩, ⟨.some 62, .none, .mv (.t 61)⟩, ⟨.some 63, .some (62, true), .mv (.t 9)⟩, ⟨.some 64, .some (62, true), .bin .eql (.t 63) (.c (.string ⟨#[]⟩))⟩, ⟨.some 65, .none, .pick (.t 62) (.t 64) (.c (.bool false))⟩, ⟨.some 4, .none, .mv (.t 65)⟩]) .ret) .skip)) (.seq (.rg false [⟨.some 66, .none, .mv (.t 10)⟩, ⟨.some 67, .none, .bin .eql (.t 66) (.c (.int .i64 0))⟩, ⟨.some 68, .none, .mv (.t 67)⟩, ⟨.some 69, .some (68, true), .mv (.t 9)⟩, ⟨.some 70, .some (68, true), .mv (.t 0)⟩, ⟨.some 71, .some (68, true), .call 211 .pure [.t 70]⟩, ⟨.some 72, .some (68, true), .bin .eql (.t 69) (.t 71)⟩, ⟨.some 73, .none, .pick (.t 68) (.t 72) (.c (.bool false))⟩, ⟨.some 4, .none, .mv (.t 73)⟩]) .ret)))))))))
def lw : List (Nat × Def) := [(242, d242), (235, d235), (241, d108)]
section
variable {env : Nat → Option Def} {fr : Fr} {σ σ' : St} {K : Fr → St → Prop} {Q : X → Fr → St → Prop}
theorem a242 (L : Has ll0 env) (M : Has lm0 env) (R : Has lr env) (W : Has lw env) {l : List Lab} (hn : l.length ≤ 9223372036854775807) (hl : Smalls l) :
    AV env 242 [.sl (labs l)] = some (.tu [.sl (labs (newL l).1), .sc (.int .i64 (newL l).2)]) := by
  have hll := labs_len l
  refine AV_wp (W (242, d242) (by simp [lw])) rfl ?_
  (repeat' first
    | refine w_seq ?_ | refine w_rg ?_ | refine wo_nil ?_ | refine g_skU ?_
    | ((first | apply s_plain | apply s_void | apply s_guard); · simp only [go_sem, Nat.reduceEqDiff, Nat.reduceAdd, Nat.reduceLeDiff, hll]; (first | done | rfl))
    | ((first | apply g_T | apply g_F); · intro hb; simp only [go_sem, Nat.reduceEqDiff, Nat.reduceAdd, Nat.reduceLeDiff, hll, hb]; (first | done | rfl))
    | ((first | apply g_gT | apply g_gF); · intro hb hc; simp only [go_sem, Nat.reduceEqDiff, Nat.reduceAdd, Nat.reduceLeDiff, hll, hb, hc]; (first | done | rfl))
    | refine g_skT ?_ | refine g_skF ?_
    | ((first | apply g_goT | apply g_goF); · simp only [go_sem, Nat.reduceEqDiff, Nat.reduceAdd, Nat.reduceLeDiff, hll]; (first | done | rfl))
    )
  by_cases h8 : (l.length : Int) > 8
  · have hd : decide ((l.length : Int) > 8) = true := decide_eq_true h8
    (repeat' first
    | refine w_seq ?_ | refine w_rg ?_ | refine wo_nil ?_ | refine g_skU ?_
    | ((first | apply s_plain | apply s_void | apply s_guard); · simp only [go_sem, Nat.reduceEqDiff, Nat.reduceAdd, Nat.reduceLeDiff, hd]; (first | done | rfl))
    | ((first | apply g_T | apply g_F); · intro hb; simp only [go_sem, Nat.reduceEqDiff, Nat.reduceAdd, Nat.reduceLeDiff, hd, hb]; (first | done | rfl))
    | ((first | apply g_gT | apply g_gF); · intro hb hc; simp only [go_sem, Nat.reduceEqDiff, Nat.reduceAdd, Nat.reduceLeDiff, hd, hb, hc]; (first | done | rfl))
    | refine g_skT ?_ | refine g_skF ?_
    | ((first | apply g_goT | apply g_goF); · simp only [go_sem, Nat.reduceEqDiff, Nat.reduceAdd, Nat.reduceLeDiff, hd]; (first | done | rfl))
    | (refine w_condT ?_ ?_; · simp only [go_sem, Nat.reduceEqDiff, Nat.reduceAdd, Nat.reduceLeDiff, hd]; (first | done | rfl))
    | (refine w_condF ?_ ?_; · simp only [go_sem, Nat.reduceEqDiff, Nat.reduceAdd, Nat.reduceLeDiff, hd]; (first | done | rfl))
    | refine w_skip ?_ | refine w_exit ?_ | refine w_ret ?_
    )
    exact ⟨.inr rfl, by simp only [go_sem, Nat.reduceEqDiff, Nat.reduceAdd, Nat.reduceLeDiff, retOf, resOf]; simp only [newL, if_pos h8]; rfl⟩
  · have hd : decide ((l.length : Int) > 8) = false := decide_eq_false h8
    (repeat' first
    | refine w_seq ?_ | refine w_rg ?_ | refine wo_nil ?_ | refine g_skU ?_
    | ((first | apply s_plain | apply s_void | apply s_guard); · simp only [go_sem, Nat.reduceEqDiff, Nat.reduceAdd, Nat.reduceLeDiff, hd]; (first | done | rfl))
    | ((first | apply g_T | apply g_F); · intro hb; simp only [go_sem, Nat.reduceEqDiff, Nat.reduceAdd, Nat.reduceLeDiff, hd, hb]; (first | done | rfl))
    | ((first | apply g_gT | apply g_gF); · intro hb hc; simp only [go_sem, Nat.reduceEqDiff, Nat.reduceAdd, Nat.reduceLeDiff, hd, hb, hc]; (first | done | rfl))
    | refine g_skT ?_ | refine g_skF ?_
    | ((first | apply g_goT | apply g_goF); · simp only [go_sem, Nat.reduceEqDiff, Nat.reduceAdd, Nat.reduceLeDiff, hd]; (first | done | rfl))
    | (refine w_condT ?_ ?_; · simp only [go_sem, Nat.reduceEqDiff, Nat.reduceAdd, Nat.reduceLeDiff, hd]; (first | done | rfl))
    | (refine w_condF ?_ ?_; · simp only [go_sem, Nat.reduceEqDiff, Nat.reduceAdd, Nat.reduceLeDiff, hd]; (first | done | rfl))
    | refine w_skip ?_ | refine w_exit ?_ | refine w_ret ?_
    )
    (repeat' first
    | refine w_seq ?_ | refine w_rg ?_ | refine wo_nil ?_ | refine g_skU ?_
    | ((first | apply s_plain | apply s_void | apply s_guard); · simp only [go_sem, Nat.reduceEqDiff, Nat.reduceAdd, Nat.reduceLeDiff, hll]; (first | done | rfl))
    | ((first | apply g_T | apply g_F); · intro hb; simp only [go_sem, Nat.reduceEqDiff, Nat.reduceAdd, Nat.reduceLeDiff, hll, hb]; (first | done | rfl))
    | ((first | apply g_gT | apply g_gF); · intro hb hc; simp only [go_sem, Nat.reduceEqDiff, Nat.reduceAdd, Nat.reduceLeDiff, hll, hb, hc]; (first | done | rfl))
    | refine g_skT ?_ | refine g_skF ?_
    | ((first | apply g_goT | apply g_goF); · simp only [go_sem, Nat.reduceEqDiff, Nat.reduceAdd, Nat.reduceLeDiff, hll]; (first | done | rfl))
    )
    refine w_block (w_range l.length (by omega) (fun i fr σ => fr 0 = .sl (labs l) ∧ fr 10 = .sl (labs l) ∧ ∀ j, j < i → (!mayB (nth l j)) = false) (by decide) ?_ ?_ ?_ _ _ ?_ ?_ ?_)
    · rintro i fr σ v ⟨h0, h1, h2⟩
      refine ⟨⟨?_, ?_, h2⟩, ⟨?_, ?_, h2⟩, ⟨?_, ?_, h2⟩⟩ <;> simp only [go_sem, Nat.reduceEqDiff, Nat.reduceAdd, Nat.reduceLeDiff, h0, h1]
    · rintro i fr σ hi ⟨h0, h10, h3⟩ hti htn
      have hx := List.getElem?_eq_getElem hi
      have hy := labs_at hx
      have hni : nth l i = l[i] := by unfold nth; rw [hx]; rfl
      have e1 : (0 : Int) ≤ (i : Int) ∧ (i : Int) < (l.length : Int) := by omega
      have hm1 := a117 L (hl _ (List.getElem_mem hi)).1
      have hm2 := a118 L (hl _ (List.getElem_mem hi)).2
      refine w_block ?_
      simp only [lab] at hy
      (repeat' first
    | refine w_seq ?_ | refine w_rg ?_ | refine wo_nil ?_ | refine g_skU ?_
    | ((first | apply s_plain | apply s_void | apply s_guard); · simp only [go_sem, Nat.reduceEqDiff, Nat.reduceAdd, Nat.reduceLeDiff, h0, h10, hti, e1, hll, Int.toNat_natCast, hy, hm1, hm2, List.modify_zero_cons]; (first | done | rfl))
    | ((first | apply g_T | apply g_F); · intro hb; simp only [go_sem, Nat.reduceEqDiff, Nat.reduceAdd, Nat.reduceLeDiff, h0, h10, hti, e1, hll, Int.toNat_natCast, hy, hm1, hm2, List.modify_zero_cons, hb]; (first | done | rfl))
    | ((first | apply g_gT | apply g_gF); · intro hb hc; simp only [go_sem, Nat.reduceEqDiff, Nat.reduceAdd, Nat.reduceLeDiff, h0, h10, hti, e1, hll, Int.toNat_natCast, hy, hm1, hm2, List.modify_zero_cons, hb, hc]; (first | done | rfl))
    | refine g_skT ?_ | refine g_skF ?_
    | ((first | apply g_goT | apply g_goF); · simp only [go_sem, Nat.reduceEqDiff, Nat.reduceAdd, Nat.reduceLeDiff, h0, h10, hti, e1, hll, Int.toNat_natCast, hy, hm1, hm2, List.modify_zero_cons]; (first | done | rfl))
    )
      have hbad : (!mayB (nth l i)) = (!nameB l[i].1 || !valueB l[i].2) := by
        rw [hni]; unfold mayB
        cases nameB l[i].1 <;> cases valueB l[i].2 <;> rfl
      cases hpi : (!nameB l[i].1 || !valueB l[i].2) with
      | true =>
        rw [← hbad] at hpi
        (repeat' first
    | refine w_seq ?_ | refine w_rg ?_ | refine wo_nil ?_ | refine g_skU ?_
    | ((first | apply s_plain | apply s_void | apply s_guard); · simp only [go_sem, Nat.reduceEqDiff, Nat.reduceAdd, Nat.reduceLeDiff]; (first | done | rfl))
    | ((first | apply g_T | apply g_F); · intro hb; simp only [go_sem, Nat.reduceEqDiff, Nat.reduceAdd, Nat.reduceLeDiff, hb]; (first | done | rfl))
    | ((first | apply g_gT | apply g_gF); · intro hb hc; simp only [go_sem, Nat.reduceEqDiff, Nat.reduceAdd, Nat.reduceLeDiff, hb, hc]; (first | done | rfl))
    | refine g_skT ?_ | refine g_skF ?_
    | ((first | apply g_goT | apply g_goF); · simp only [go_sem, Nat.reduceEqDiff, Nat.reduceAdd, Nat.reduceLeDiff]; (first | done | rfl))
    | (refine w_condT ?_ ?_; · simp only [go_sem, Nat.reduceEqDiff, Nat.reduceAdd, Nat.reduceLeDiff]; (first | done | rfl))
    | (refine w_condF ?_ ?_; · simp only [go_sem, Nat.reduceEqDiff, Nat.reduceAdd, Nat.reduceLeDiff]; (first | done | rfl))
    | refine w_skip ?_ | refine w_exit ?_ | refine w_ret ?_
    )
        have hw : wrongB l = true := by unfold wrongB; rw [found_hit hi h3 hpi]; simp
        exact ⟨.inr rfl, by simp only [go_sem, Nat.reduceEqDiff, Nat.reduceAdd, Nat.reduceLeDiff, retOf, resOf]; simp only [newL, if_neg h8, hw, if_true]; rfl⟩
      | false =>
        rw [← hbad] at hpi
        (repeat' first
    | refine w_seq ?_ | refine w_rg ?_ | refine wo_nil ?_ | refine g_skU ?_
    | ((first | apply s_plain | apply s_void | apply s_guard); · simp only [go_sem, Nat.reduceEqDiff, Nat.reduceAdd, Nat.reduceLeDiff]; (first | done | rfl))
    | ((first | apply g_T | apply g_F); · intro hb; simp only [go_sem, Nat.reduceEqDiff, Nat.reduceAdd, Nat.reduceLeDiff, hb]; (first | done | rfl))
    | ((first | apply g_gT | apply g_gF); · intro hb hc; simp only [go_sem, Nat.reduceEqDiff, Nat.reduceAdd, Nat.reduceLeDiff, hb, hc]; (first | done | rfl))
    | refine g_skT ?_ | refine g_skF ?_
    | ((first | apply g_goT | apply g_goF); · simp only [go_sem, Nat.reduceEqDiff, Nat.reduceAdd, Nat.reduceLeDiff]; (first | done | rfl))
    | (refine w_condT ?_ ?_; · simp only [go_sem, Nat.reduceEqDiff, Nat.reduceAdd, Nat.reduceLeDiff]; (first | done | rfl))
    | (refine w_condF ?_ ?_; · simp only [go_sem, Nat.reduceEqDiff, Nat.reduceAdd, Nat.reduceLeDiff]; (first | done | rfl))
    | refine w_skip ?_ | refine w_exit ?_ | refine w_ret ?_
    )
        refine ⟨⟨?_, ?_, fun j hj => ?_⟩, ?_, ?_⟩
        · simp only [go_sem, Nat.reduceEqDiff, Nat.reduceAdd, Nat.reduceLeDiff, h0]
        · simp only [go_sem, Nat.reduceEqDiff, Nat.reduceAdd, Nat.reduceLeDiff, h10]
        · by_cases hji : j = i
          · rw [hji]; exact hpi
          · exact h3 j (by omega)
        · simp only [go_sem, Nat.reduceEqDiff, Nat.reduceAdd, Nat.reduceLeDiff, hti]
        · simp only [go_sem, Nat.reduceEqDiff, Nat.reduceAdd, Nat.reduceLeDiff, htn]
    · rintro fr σ ⟨h0, h10, h3⟩
      try simp only [if_true]
      have hw : wrongB l = false := by unfold wrongB; rw [found_none h3]; rfl
      have h201 := a201 L R (l := l) (by omega) hl
      have h110 := a110 L M (l := sortedL l) (by rw [sortedL_len]; exact hn) (sorted_smalls hl)
      (repeat' first
    | refine w_seq ?_ | refine w_rg ?_ | refine wo_nil ?_ | refine g_skU ?_
    | ((first | apply s_plain | apply s_void | apply s_guard); · simp only [go_sem, Nat.reduceEqDiff, Nat.reduceAdd, Nat.reduceLeDiff, h0, h201]; (first | done | rfl))
    | ((first | apply g_T | apply g_F); · intro hb; simp only [go_sem, Nat.reduceEqDiff, Nat.reduceAdd, Nat.reduceLeDiff, h0, h201, hb]; (first | done | rfl))
    | ((first | apply g_gT | apply g_gF); · intro hb hc; simp only [go_sem, Nat.reduceEqDiff, Nat.reduceAdd, Nat.reduceLeDiff, h0, h201, hb, hc]; (first | done | rfl))
    | refine g_skT ?_ | refine g_skF ?_
    | ((first | apply g_goT | apply g_goF); · simp only [go_sem, Nat.reduceEqDiff, Nat.reduceAdd, Nat.reduceLeDiff, h0, h201]; (first | done | rfl))
    )
      (repeat' first
    | refine w_seq ?_ | refine w_rg ?_ | refine wo_nil ?_ | refine g_skU ?_
    | ((first | apply s_plain | apply s_void | apply s_guard); · simp only [go_sem, Nat.reduceEqDiff, Nat.reduceAdd, Nat.reduceLeDiff, h110]; (first | done | rfl))
    | ((first | apply g_T | apply g_F); · intro hb; simp only [go_sem, Nat.reduceEqDiff, Nat.reduceAdd, Nat.reduceLeDiff, h110, hb]; (first | done | rfl))
    | ((first | apply g_gT | apply g_gF); · intro hb hc; simp only [go_sem, Nat.reduceEqDiff, Nat.reduceAdd, Nat.reduceLeDiff, h110, hb, hc]; (first | done | rfl))
    | refine g_skT ?_ | refine g_skF ?_
    | ((first | apply g_goT | apply g_goF); · simp only [go_sem, Nat.reduceEqDiff, Nat.reduceAdd, Nat.reduceLeDiff, h110]; (first | done | rfl))
    )
      cases hr : rightL (sortedL l) with
      | false =>
        (repeat' first
    | refine w_seq ?_ | refine w_rg ?_ | refine wo_nil ?_ | refine g_skU ?_
    | ((first | apply s_plain | apply s_void | apply s_guard); · simp only [go_sem, Nat.reduceEqDiff, Nat.reduceAdd, Nat.reduceLeDiff]; (first | done | rfl))
    | ((first | apply g_T | apply g_F); · intro hb; simp only [go_sem, Nat.reduceEqDiff, Nat.reduceAdd, Nat.reduceLeDiff, hb]; (first | done | rfl))
    | ((first | apply g_gT | apply g_gF); · intro hb hc; simp only [go_sem, Nat.reduceEqDiff, Nat.reduceAdd, Nat.reduceLeDiff, hb, hc]; (first | done | rfl))
    | refine g_skT ?_ | refine g_skF ?_
    | ((first | apply g_goT | apply g_goF); · simp only [go_sem, Nat.reduceEqDiff, Nat.reduceAdd, Nat.reduceLeDiff]; (first | done | rfl))
    | (refine w_condT ?_ ?_; · simp only [go_sem, Nat.reduceEqDiff, Nat.reduceAdd, Nat.reduceLeDiff]; (first | done | rfl))
    | (refine w_condF ?_ ?_; · simp only [go_sem, Nat.reduceEqDiff, Nat.reduceAdd, Nat.reduceLeDiff]; (first | done | rfl))
    | refine w_skip ?_ | refine w_exit ?_ | refine w_ret ?_
    )
        exact ⟨.inr rfl, by simp only [go_sem, Nat.reduceEqDiff, Nat.reduceAdd, Nat.reduceLeDiff, retOf, resOf]; simp only [newL, if_neg h8, hw, hr]; rfl⟩
      | true =>
        (repeat' first
    | refine w_seq ?_ | refine w_rg ?_ | refine wo_nil ?_ | refine g_skU ?_
    | ((first | apply s_plain | apply s_void | apply s_guard); · simp only [go_sem, Nat.reduceEqDiff, Nat.reduceAdd, Nat.reduceLeDiff]; (first | done | rfl))
    | ((first | apply g_T | apply g_F); · intro hb; simp only [go_sem, Nat.reduceEqDiff, Nat.reduceAdd, Nat.reduceLeDiff, hb]; (first | done | rfl))
    | ((first | apply g_gT | apply g_gF); · intro hb hc; simp only [go_sem, Nat.reduceEqDiff, Nat.reduceAdd, Nat.reduceLeDiff, hb, hc]; (first | done | rfl))
    | refine g_skT ?_ | refine g_skF ?_
    | ((first | apply g_goT | apply g_goF); · simp only [go_sem, Nat.reduceEqDiff, Nat.reduceAdd, Nat.reduceLeDiff]; (first | done | rfl))
    | (refine w_condT ?_ ?_; · simp only [go_sem, Nat.reduceEqDiff, Nat.reduceAdd, Nat.reduceLeDiff]; (first | done | rfl))
    | (refine w_condF ?_ ?_; · simp only [go_sem, Nat.reduceEqDiff, Nat.reduceAdd, Nat.reduceLeDiff]; (first | done | rfl))
    | refine w_skip ?_ | refine w_exit ?_ | refine w_ret ?_
    )
        exact ⟨.inr rfl, by simp only [go_sem, Nat.reduceEqDiff, Nat.reduceAdd, Nat.reduceLeDiff, retOf, resOf]; simp only [newL, if_neg h8, hw, hr, if_true]; first | done | rfl⟩
    · refine ⟨?_, ?_, fun j hj => by omega⟩ <;> simp only [go_sem, Nat.reduceEqDiff, Nat.reduceAdd, Nat.reduceLeDiff]
    · simp only [go_sem, Nat.reduceEqDiff, Nat.reduceAdd, Nat.reduceLeDiff]
    · simp only [go_sem, Nat.reduceEqDiff, Nat.reduceAdd, Nat.reduceLeDiff, hll]
theorem a235 (H : Has la0 env) (G : Has lc env) (L : Has ll0 env) (M : Has lm0 env) (N : Has ln0 env) (O : Has lo env) (P : Has lp env) (R : Has lr env) (U : Has lu env) (W : Has lw env) (B : Bits env)
    (hal : AV env 240 [] = some (.sc (.bool true))) {l : List Lab} (hl : l.length ≤ 9223372036854775807) (n : ByteArray) : AV env 235 [.sl (labs l), .sc (.string n)] = some (.sc (.bool true)) := by
  have h241 := few_g (W (241, d108) (by simp [lw])) hl
  have hk : (fewL l).length ≤ 10 := by rw [fewL_len]; omega
  have hs := fewL_smalls l
  generalize fewL l = k at h241 hk hs
  have h129 := a129 H G O P B (l := k) (by omega) hs
  have h242 := a242 L M R W (l := k) (by omega) hs
  have h202 := a202 H G P U (l := k) (by omega) hs
  have h113 := a113 H G (l := k) (by omega) hs
  have h110 := a110 L M (l := k) (by omega) hs
  have h114 := a114 G (l := k) (n := n) (by omega)
  have h200 := a200 R (l := k) (n := n) (by omega)
  have hnl : (newL k).1.length ≤ 9223372036854775807 := by
    unfold newL
    split
    · simp
    · split
      · simp
      · split
        · rw [sortedL_len]; omega
        · simp
  have h192 := a192 N (a := (newL k).1) (b := (newL k).1) hnl
  rw [show sameL (newL k).1 (newL k).1 = true from by unfold sameL; exact decide_eq_true rfl] at h192
  refine AV_wp (W (235, d235) (by simp [lw])) rfl ?_
  (repeat' first
    | refine w_seq ?_ | refine w_rg ?_ | refine wo_nil ?_ | refine g_skU ?_
    | ((first | apply s_plain | apply s_void | apply s_guard); · simp only [go_sem, Nat.reduceEqDiff, Nat.reduceAdd, Nat.reduceLeDiff, h241, h129, h242, h202, h113, h110, h114, h200, h192, hal]; (first | done | rfl))
    | ((first | apply g_T | apply g_F); · intro hb; simp only [go_sem, Nat.reduceEqDiff, Nat.reduceAdd, Nat.reduceLeDiff, h241, h129, h242, h202, h113, h110, h114, h200, h192, hal, hb]; (first | done | rfl))
    | ((first | apply g_gT | apply g_gF); · intro hb hc; simp only [go_sem, Nat.reduceEqDiff, Nat.reduceAdd, Nat.reduceLeDiff, h241, h129, h242, h202, h113, h110, h114, h200, h192, hal, hb, hc]; (first | done | rfl))
    | refine g_skT ?_ | refine g_skF ?_
    | ((first | apply g_goT | apply g_goF); · simp only [go_sem, Nat.reduceEqDiff, Nat.reduceAdd, Nat.reduceLeDiff, h241, h129, h242, h202, h113, h110, h114, h200, h192, hal]; (first | done | rfl))
    )
  refine w_condF (by simp only [go_sem, Nat.reduceEqDiff, Nat.reduceAdd, Nat.reduceLeDiff]; cases rightL k; simp; simp) ?_
  (repeat' first
    | refine w_seq ?_ | refine w_rg ?_ | refine wo_nil ?_ | refine g_skU ?_
    | ((first | apply s_plain | apply s_void | apply s_guard); · simp only [go_sem, Nat.reduceEqDiff, Nat.reduceAdd, Nat.reduceLeDiff]; (first | done | rfl))
    | ((first | apply g_T | apply g_F); · intro hb; simp only [go_sem, Nat.reduceEqDiff, Nat.reduceAdd, Nat.reduceLeDiff, hb]; (first | done | rfl))
    | ((first | apply g_gT | apply g_gF); · intro hb hc; simp only [go_sem, Nat.reduceEqDiff, Nat.reduceAdd, Nat.reduceLeDiff, hb, hc]; (first | done | rfl))
    | refine g_skT ?_ | refine g_skF ?_
    | ((first | apply g_goT | apply g_goF); · simp only [go_sem, Nat.reduceEqDiff, Nat.reduceAdd, Nat.reduceLeDiff]; (first | done | rfl))
    | (refine w_condT ?_ ?_; · simp only [go_sem, Nat.reduceEqDiff, Nat.reduceAdd, Nat.reduceLeDiff]; (first | done | rfl))
    | (refine w_condF ?_ ?_; · simp only [go_sem, Nat.reduceEqDiff, Nat.reduceAdd, Nat.reduceLeDiff]; (first | done | rfl))
    | refine w_skip ?_ | refine w_exit ?_ | refine w_ret ?_
    )
  (repeat' first
    | refine w_seq ?_ | refine w_rg ?_ | refine wo_nil ?_ | refine g_skU ?_
    | ((first | apply s_plain | apply s_void | apply s_guard); · simp only [go_sem, Nat.reduceEqDiff, Nat.reduceAdd, Nat.reduceLeDiff, h110]; (first | done | rfl))
    | ((first | apply g_T | apply g_F); · intro hb; simp only [go_sem, Nat.reduceEqDiff, Nat.reduceAdd, Nat.reduceLeDiff, h110, hb]; (first | done | rfl))
    | ((first | apply g_gT | apply g_gF); · intro hb hc; simp only [go_sem, Nat.reduceEqDiff, Nat.reduceAdd, Nat.reduceLeDiff, h110, hb, hc]; (first | done | rfl))
    | refine g_skT ?_ | refine g_skF ?_
    | ((first | apply g_goT | apply g_goF); · simp only [go_sem, Nat.reduceEqDiff, Nat.reduceAdd, Nat.reduceLeDiff, h110]; (first | done | rfl))
    )
  cases hr : rightL k with
  | false =>
    (repeat' first
    | refine w_seq ?_ | refine w_rg ?_ | refine wo_nil ?_ | refine g_skU ?_
    | ((first | apply s_plain | apply s_void | apply s_guard); · simp only [go_sem, Nat.reduceEqDiff, Nat.reduceAdd, Nat.reduceLeDiff]; (first | done | rfl))
    | ((first | apply g_T | apply g_F); · intro hb; simp only [go_sem, Nat.reduceEqDiff, Nat.reduceAdd, Nat.reduceLeDiff, hb]; (first | done | rfl))
    | ((first | apply g_gT | apply g_gF); · intro hb hc; simp only [go_sem, Nat.reduceEqDiff, Nat.reduceAdd, Nat.reduceLeDiff, hb, hc]; (first | done | rfl))
    | refine g_skT ?_ | refine g_skF ?_
    | ((first | apply g_goT | apply g_goF); · simp only [go_sem, Nat.reduceEqDiff, Nat.reduceAdd, Nat.reduceLeDiff]; (first | done | rfl))
    | (refine w_condT ?_ ?_; · simp only [go_sem, Nat.reduceEqDiff, Nat.reduceAdd, Nat.reduceLeDiff]; (first | done | rfl))
    | (refine w_condF ?_ ?_; · simp only [go_sem, Nat.reduceEqDiff, Nat.reduceAdd, Nat.reduceLeDiff]; (first | done | rfl))
    | refine w_skip ?_ | refine w_exit ?_ | refine w_ret ?_
    )
    exact ⟨.inr rfl, by simp only [go_sem, Nat.reduceEqDiff, Nat.reduceAdd, Nat.reduceLeDiff, retOf, resOf]; simp⟩
  | true =>
    obtain ⟨hmay, _, h8⟩ := right_iff.1 hr
    have h211 := a211 U (l := k) (fun m hm => may_size (hmay m hm)) h8
    (repeat' first
    | refine w_seq ?_ | refine w_rg ?_ | refine wo_nil ?_ | refine g_skU ?_
    | ((first | apply s_plain | apply s_void | apply s_guard); · simp only [go_sem, Nat.reduceEqDiff, Nat.reduceAdd, Nat.reduceLeDiff, h211]; (first | done | rfl))
    | ((first | apply g_T | apply g_F); · intro hb; simp only [go_sem, Nat.reduceEqDiff, Nat.reduceAdd, Nat.reduceLeDiff, h211, hb]; (first | done | rfl))
    | ((first | apply g_gT | apply g_gF); · intro hb hc; simp only [go_sem, Nat.reduceEqDiff, Nat.reduceAdd, Nat.reduceLeDiff, h211, hb, hc]; (first | done | rfl))
    | refine g_skT ?_ | refine g_skF ?_
    | ((first | apply g_goT | apply g_goF); · simp only [go_sem, Nat.reduceEqDiff, Nat.reduceAdd, Nat.reduceLeDiff, h211]; (first | done | rfl))
    | (refine w_condT ?_ ?_; · simp only [go_sem, Nat.reduceEqDiff, Nat.reduceAdd, Nat.reduceLeDiff, h211]; (first | done | rfl))
    | (refine w_condF ?_ ?_; · simp only [go_sem, Nat.reduceEqDiff, Nat.reduceAdd, Nat.reduceLeDiff, h211]; (first | done | rfl))
    | refine w_skip ?_ | refine w_exit ?_ | refine w_ret ?_
    )
    exact ⟨.inr rfl, by simp only [go_sem, Nat.reduceEqDiff, Nat.reduceAdd, Nat.reduceLeDiff, retOf, resOf]; simp⟩
end
end Go.Proofs.YtjijlmfhnkipmaaDoorPv
namespace Go.Proofs.YtjijlmfhnkipmaaDoorPv
open Go
set_option linter.unusedSimpArgs false
set_option linter.unusedVariables false
set_option maxHeartbeats 4000000
attribute [local go_sem ↓] e_mv e_pick e_bin e_eqs e_beq e_un e_cvi e_str e_s2b e_b2s e_box e_build e_bsl e_ld e_st e_nck e_mkf e_slcS e_slcL e_fa e_fld e_ia e_iaa e_ix e_ixa e_ext e_lenS e_lenL e_mnmx e_app e_appb e_bbx e_msl e_clr e_call e_callv pa_t pa_c pa_f slcSP_str hiOf_some hiOf_none loOf_some loOf_none set_eq set_ne
attribute [local go_sem] pv pv1 simple frOf_0 frOf_1 frOf_2 frOf_3 frOf_4 frOf_5 ne_eq not_false_eq_true if_true Bool.false_eq_true if_false pbin punary Option.map_some Option.bind_some pick_and pick_or opt_true Bool.true_and Bool.and_self Bool.and_true Bool.true_or Bool.false_or Bool.not_true Bool.not_false callE pcall_eq List.map_cons List.map_nil List.append_nil List.nil_append List.cons_append mapM_cons' mapM_nil' dep_eq fz_sc fz_sl fz_em fz_fn fz_fp fz_agg fz_tu fz_bx fz_ob Nat.lt_irrefl Nat.zero_lt_one Nat.lt_add_one flat clL cl Bool.or_true okc_sc okc_em okc_sl okc_ob okc_bx okc_fp okc_fn okc_agg okc_ifc cells_agg cells_sc cells_sl cells_em cells_ob cells_fn cells_bx cells_fp List.length_cons List.length_nil Nat.zero_add and_self true_and and_true new_m new_c put_m put_c nil_m nil_c deref List.getElem?_cons_zero List.getElem?_cons_succ List.drop_zero List.drop_succ_cons List.take_succ_cons List.take_zero Nat.le_refl false_and and_false decide_true decide_false lenP_em lenP_nil lenP_sl lenP_ob Int.ofNat_zero
set_option maxRecDepth 8000
/-- slices.Index[[]string,string] -/
def d37 : Def := (.code 2 [.tmp 4] (.seq (.rg false [⟨.some 4, .none, .mv (.c (.int .i64 0))⟩]) (.seq (.seq (.rg false [⟨.some 6, .none, .mv (.t 0)⟩, ⟨.some 7, .none, .lenL (.t 6)⟩, ⟨.some 8, .none, .mv (.c (.int .i64 0))⟩]) (.block 0 (.loop (.seq (.rg false [⟨.some 9, .none, .bin .lss (.t 8) (.t 7)⟩]) (.seq (.cond (.t 9) .skip (.exit 0)) (.seq (.block 1 (.seq (.rg false [⟨.some 10, .none, .mv (.t 8)⟩, ⟨.some 5, .none, .mv (.t 10)⟩]) (.seq (.rg false [⟨.some 11, .none, .mv (.t 1)⟩, ⟨.some 12, .none, .mv (.t 0)⟩, ⟨.some 13, .none, .mv (.t 5)⟩, ⟨.some 14, .none, .ia 1 (.t 12) (.t 13)⟩, ⟨.some 15, .none, .ld .none (.t 14)⟩, ⟨.some 16, .none, .bin .eql (.t 11) (.t 15)⟩]) (.cond (.t 16) (.seq (.rg false [⟨.some 17, .none, .mv (.t 5)⟩, ⟨.some 4, .none, .mv (.t 17)⟩]) .ret) .skip)))) (.rg false [⟨.some 18, .none, .bin .add (.t 8) (.c (.int .i64 1))⟩, ⟨.some 8, .none, .mv (.t 18)⟩]))))))) (.seq (.rg false [⟨.some 4, .none, .mv (.c (.int .i64 (-1)))⟩]) .ret))))
/-- slices.Contains[[]string,string] -/
def d50 : Def := (.code 2 [.tmp 4] (.seq (.rg false [⟨.some 4, .none, .mv (.c (.bool false))⟩]) (.seq (.rg false [⟨.some 5, .none, .mv (.t 0)⟩, ⟨.some 6, .none, .mv (.t 1)⟩, ⟨.some 7, .none, .call 37 .pure [.t 5, .t 6]⟩, ⟨.some 8, .none, .bin .geq (.t 7) (.c (.int .i64 0))⟩, ⟨.some 4, .none, .mv (.t 8)⟩]) .ret)))
/-- transhipment/label.Keep$1 -/
def d247 : Def := (.code 2 [.tmp 3] (.seq (.rg false [⟨.some 2, .none, .box (.t 0)⟩, ⟨.some 3, .none, .mv (.c (.bool false))⟩]) (.seq (.rg false [⟨.some 4, .none, .ld .none (.t 1)⟩, ⟨.some 5, .none, .fa 0 (.t 2)⟩, ⟨.some 6, .none, .ld .none (.t 5)⟩, ⟨.some 7, .none, .call 50 .pure [.t 4, .t 6]⟩, ⟨.some 8, .none, .un .not (.t 7)⟩, ⟨.some 3, .none, .mv (.t 8)⟩]) .ret)))
/-- transhipment/transhipmentlaw03.names -/
def d243 : Def := (.code 1 [.tmp 2] (.seq (.rg false [⟨.some 2, .none, .mv (.c (.slice .none 0 0))⟩]) (.seq (.rg false [⟨.some 3, .none, .mv (.c (.slice .none 0 0))⟩]) (.seq (.seq (.rg false [⟨.some 6, .none, .mv (.t 0)⟩, ⟨.some 7, .none, .mv (.t 0)⟩, ⟨.some 8, .none, .lenL (.t 7)⟩, ⟨.some 9, .none, .mnmx false [.t 8, .c (.int .i64 10)]⟩, ⟨.some 10, .none, .slcL 1 (.t 6) .none (.some (.t 9))⟩, ⟨.some 11, .none, .lenL (.t 10)⟩, ⟨.some 12, .none, .mv (.c (.int .i64 0))⟩]) (.block 0 (.loop (.seq (.rg false [⟨.some 13, .none, .bin .lss (.t 12) (.t 11)⟩]) (.seq (.cond (.t 13) .skip (.exit 0)) (.seq (.block 1 (.seq (.rg false [⟨.some 14, .none, .ia 1 (.t 10) (.t 12)⟩, ⟨.some 15, .none, .ld .none (.t 14)⟩, ⟨.some 5, .none, .mv (.t 15)⟩]) (.rg false [⟨.some 16, .none, .mv (.t 3)⟩, ⟨.some 17, .none, .mv (.t 5)⟩, ⟨.some 18, .none, .mv (.t 5)⟩, ⟨.some 19, .none, .lenS (.t 18)⟩, ⟨.some 20, .none, .mnmx false [.t 19, .c (.int .i64 70)]⟩, ⟨.some 21, .none, .slcS (.t 17) .none (.some (.t 20))⟩, ⟨.some 22, .none, .bsl 1 (.string ⟨#[]⟩) 1 [(0, .t 21)]⟩, ⟨.some 23, .none, .app 1 16 false (.t 16) (.t 22)⟩, ⟨.some 3, .none, .mv (.t 23)⟩]))) (.rg false [⟨.some 24, .none, .bin .add (.t 12) (.c (.int .i64 1))⟩, ⟨.some 12, .none, .mv (.t 24)⟩]))))))) (.seq (.rg false [⟨.some 25, .none, .mv (.t 3)⟩, ⟨.some 2, .none, .mv (.t 25)⟩]) .ret)))))
/-- transhipment/transhipmentref03.Keep -/
def d245 : Def := (.code 2 [.tmp 4] (.seq (.rg false [⟨.some 4, .none, .mv (.c (.slice .none 0 0))⟩]) (.seq (.rg false [⟨.some 11, .none, .mv (.c (.slice .none 0 0))⟩, ⟨.some 5, .none, .mv (.t 11)⟩]) (.seq (.seq (.rg false [⟨.some 12, .none, .mv (.t 0)⟩, ⟨.some 13, .none, .lenL (.t 12)⟩, ⟨.some 14, .none, .mv (.c (.int .i64 0))⟩]) (.block 0 (.loop (.seq (.rg false [⟨.some 15, .none, .bin .lss (.t 14) (.t 13)⟩]) (.seq (.cond (.t 15) .skip (.exit 0)) (.seq (.block 1 (.seq (.rg false [⟨.some 16, .none, .ia 2 (.t 12) (.t 14)⟩, ⟨.some 17, .none, .ld (.some 2) (.t 16)⟩, ⟨.some 7, .none, .box (.c (.agg #[.string ⟨#[]⟩, .string ⟨#[]⟩]))⟩, ⟨.none, .none, .st 2 (.t 7) (.t 17)⟩]) (.seq (.rg false [⟨.some 8, .none, .mv (.c (.bool false))⟩]) (.seq (.seq (.rg false [⟨.some 18, .none, .mv (.t 1)⟩, ⟨.some 19, .none, .lenL (.t 18)⟩, ⟨.some 20, .none, .mv (.c (.int .i64 0))⟩]) (.block 2 (.loop (.seq (.rg false [⟨.some 21, .none, .bin .lss (.t 20) (.t 19)⟩]) (.seq (.cond (.t 21) .skip (.exit 2)) (.seq (.block 3 (.seq (.rg false [⟨.some 22, .none, .ia 1 (.t 18) (.t 20)⟩, ⟨.some 23, .none, .ld .none (.t 22)⟩, ⟨.some 10, .none, .mv (.t 23)⟩]) (.rg false [⟨.some 24, .none, .mv (.t 8)⟩, ⟨.some 25, .none, .mv (.t 24)⟩, ⟨.some 26, .some (25, false), .mv (.t 10)⟩, ⟨.some 27, .some (25, false), .fa 0 (.t 7)⟩, ⟨.some 28, .some (25, false), .ld .none (.t 27)⟩, ⟨.some 29, .some (25, false), .bin .eql (.t 26) (.t 28)⟩, ⟨.some 30, .none, .pick (.t 25) (.c (.bool true)) (.t 29)⟩, ⟨.some 8, .none, .mv (.t 30)⟩]))) (.rg false [⟨.some 31, .none, .bin .add (.t 20) (.c (.int .i64 1))⟩, ⟨.some 20, .none, .mv (.t 31)⟩]))))))) (.seq (.rg false [⟨.some 32, .none, .mv (.t 8)⟩]) (.cond (.t 32) (.rg false [⟨.some 33, .none, .mv (.t 5)⟩, ⟨.some 34, .none, .ld (.some 2) (.t 7)⟩, ⟨.some 35, .none, .bsl 2 (.agg #[.string ⟨#[]⟩, .string ⟨#[]⟩]) 1 [(0, .t 34)]⟩, ⟨.some 36, .none, .app 2 32 false (.t 33) (.t 35)⟩, ⟨.some 5, .none, .mv (.t 36)⟩]) .skip)))))) (.rg false [⟨.some 37, .none, .bin .add (.t 14) (.c (.int .i64 1))⟩, ⟨.some 14, .none, .mv (.t 37)⟩]))))))) (.seq (.rg false [⟨.some 38, .none, .mv (.t 5)⟩, ⟨.some 4, .none, .mv (.t 38)⟩]) .ret)))))
def lx : List (Nat × Def) := [(37, d37), (50, d50), (247, d247), (243, d243), (245, d245)]
section
variable {env : Nat → Option Def} {fr : Fr} {σ σ' : St} {K : Fr → St → Prop} {Q : X → Fr → St → Prop}
def strs (l : List ByteArray) : List PV := l.map fun s => .sc (.string s)
theorem strs_len (l : List ByteArray) : (strs l).length = l.length := by simp [strs]
theorem strs_at {l : List ByteArray} {i : Nat} {s : ByteArray} (h : l[i]? = some s) : (strs l)[i]? = some (.sc (.string s)) := by simp [strs, h]
theorem strs_fz (σ : St) (l : List ByteArray) : (strs l).mapM (fz σ 11) = some (strs l) := by
  induction l with
  | nil => rfl
  | cons m r ih =>
    show List.mapM (fz σ 11) (.sc (.string m) :: strs r) = _
    rw [mapM_cons', ih]
    rfl
def nthS (l : List ByteArray) (i : Nat) : ByteArray := l[i]?.getD ⟨#[]⟩
theorem nthS_eq {l : List ByteArray} {i : Nat} (hi : i < l.length) : nthS l i = l[i] := by unfold nthS; rw [List.getElem?_eq_getElem hi]; rfl
def isS (l : List ByteArray) (s : ByteArray) (i : Nat) : Bool := s.toList == (nthS l i).toList
def hasN (l : List ByteArray) (s : ByteArray) : Bool := decide (found (isS l s) l.length ≥ 0)
theorem a37 (X : Has lx env) {l : List ByteArray} (hn : l.length ≤ 9223372036854775807) (s : ByteArray) : AV env 37 [.sl (strs l), .sc (.string s)] = some (.sc (.int .i64 (found (isS l s) l.length))) := by
  refine AV_wp (X (37, d37) (by simp [lx])) rfl ?_
  have hll := strs_len l
  (repeat' first
    | refine w_seq ?_ | refine w_rg ?_ | refine wo_nil ?_ | refine g_skU ?_
    | ((first | apply s_plain | apply s_void | apply s_guard); · simp only [go_sem, Nat.reduceEqDiff, Nat.reduceAdd, Nat.reduceLeDiff, hll]; (first | done | rfl))
    | ((first | apply g_T | apply g_F); · intro hb; simp only [go_sem, Nat.reduceEqDiff, Nat.reduceAdd, Nat.reduceLeDiff, hll, hb]; (first | done | rfl))
    | ((first | apply g_gT | apply g_gF); · intro hb hc; simp only [go_sem, Nat.reduceEqDiff, Nat.reduceAdd, Nat.reduceLeDiff, hll, hb, hc]; (first | done | rfl))
    | refine g_skT ?_ | refine g_skF ?_
    | ((first | apply g_goT | apply g_goF); · simp only [go_sem, Nat.reduceEqDiff, Nat.reduceAdd, Nat.reduceLeDiff, hll]; (first | done | rfl))
    )
  refine w_block (w_range l.length hn (fun i fr σ => fr 0 = .sl (strs l) ∧ fr 1 = .sc (.string s) ∧ ∀ j, j < i → isS l s j = false) (by decide) ?_ ?_ ?_ _ _ ?_ ?_ ?_)
  · rintro i fr σ v ⟨h0, h1, h2⟩
    refine ⟨⟨?_, ?_, h2⟩, ⟨?_, ?_, h2⟩, ⟨?_, ?_, h2⟩⟩ <;> simp only [go_sem, Nat.reduceEqDiff, Nat.reduceAdd, Nat.reduceLeDiff, h0, h1]
  · rintro i fr σ hi ⟨h0, h1, h3⟩ hti htn
    have hy := strs_at (List.getElem?_eq_getElem hi)
    have hni := nthS_eq hi
    have e1 : (0 : Int) ≤ (i : Int) ∧ (i : Int) < (l.length : Int) := by omega
    refine w_block ?_
    (repeat' first
    | refine w_seq ?_ | refine w_rg ?_ | refine wo_nil ?_ | refine g_skU ?_
    | ((first | apply s_plain | apply s_void | apply s_guard); · simp only [go_sem, Nat.reduceEqDiff, Nat.reduceAdd, Nat.reduceLeDiff, h0, h1, hti, e1, hll, Int.toNat_natCast, hy]; (first | done | rfl))
    | ((first | apply g_T | apply g_F); · intro hb; simp only [go_sem, Nat.reduceEqDiff, Nat.reduceAdd, Nat.reduceLeDiff, h0, h1, hti, e1, hll, Int.toNat_natCast, hy, hb]; (first | done | rfl))
    | ((first | apply g_gT | apply g_gF); · intro hb hc; simp only [go_sem, Nat.reduceEqDiff, Nat.reduceAdd, Nat.reduceLeDiff, h0, h1, hti, e1, hll, Int.toNat_natCast, hy, hb, hc]; (first | done | rfl))
    | refine g_skT ?_ | refine g_skF ?_
    | ((first | apply g_goT | apply g_goF); · simp only [go_sem, Nat.reduceEqDiff, Nat.reduceAdd, Nat.reduceLeDiff, h0, h1, hti, e1, hll, Int.toNat_natCast, hy]; (first | done | rfl))
    )
    have hbad : isS l s i = (s.toList == l[i].toList) := by unfold isS; rw [hni]
    rw [← hbad]
    cases hpi : isS l s i with
    | true =>
      (repeat' first
    | refine w_seq ?_ | refine w_rg ?_ | refine wo_nil ?_ | refine g_skU ?_
    | ((first | apply s_plain | apply s_void | apply s_guard); · simp only [go_sem, Nat.reduceEqDiff, Nat.reduceAdd, Nat.reduceLeDiff]; (first | done | rfl))
    | ((first | apply g_T | apply g_F); · intro hb; simp only [go_sem, Nat.reduceEqDiff, Nat.reduceAdd, Nat.reduceLeDiff, hb]; (first | done | rfl))
    | ((first | apply g_gT | apply g_gF); · intro hb hc; simp only [go_sem, Nat.reduceEqDiff, Nat.reduceAdd, Nat.reduceLeDiff, hb, hc]; (first | done | rfl))
    | refine g_skT ?_ | refine g_skF ?_
    | ((first | apply g_goT | apply g_goF); · simp only [go_sem, Nat.reduceEqDiff, Nat.reduceAdd, Nat.reduceLeDiff]; (first | done | rfl))
    | (refine w_condT ?_ ?_; · simp only [go_sem, Nat.reduceEqDiff, Nat.reduceAdd, Nat.reduceLeDiff]; (first | done | rfl))
    | (refine w_condF ?_ ?_; · simp only [go_sem, Nat.reduceEqDiff, Nat.reduceAdd, Nat.reduceLeDiff]; (first | done | rfl))
    | refine w_skip ?_ | refine w_exit ?_ | refine w_ret ?_
    )
      exact ⟨.inr rfl, by simp only [go_sem, Nat.reduceEqDiff, Nat.reduceAdd, Nat.reduceLeDiff, retOf, resOf, found_hit hi h3 hpi]⟩
    | false =>
      (repeat' first
    | refine w_seq ?_ | refine w_rg ?_ | refine wo_nil ?_ | refine g_skU ?_
    | ((first | apply s_plain | apply s_void | apply s_guard); · simp only [go_sem, Nat.reduceEqDiff, Nat.reduceAdd, Nat.reduceLeDiff]; (first | done | rfl))
    | ((first | apply g_T | apply g_F); · intro hb; simp only [go_sem, Nat.reduceEqDiff, Nat.reduceAdd, Nat.reduceLeDiff, hb]; (first | done | rfl))
    | ((first | apply g_gT | apply g_gF); · intro hb hc; simp only [go_sem, Nat.reduceEqDiff, Nat.reduceAdd, Nat.reduceLeDiff, hb, hc]; (first | done | rfl))
    | refine g_skT ?_ | refine g_skF ?_
    | ((first | apply g_goT | apply g_goF); · simp only [go_sem, Nat.reduceEqDiff, Nat.reduceAdd, Nat.reduceLeDiff]; (first | done | rfl))
    | (refine w_condT ?_ ?_; · simp only [go_sem, Nat.reduceEqDiff, Nat.reduceAdd, Nat.reduceLeDiff]; (first | done | rfl))
    | (refine w_condF ?_ ?_; · simp only [go_sem, Nat.reduceEqDiff, Nat.reduceAdd, Nat.reduceLeDiff]; (first | done | rfl))
    | refine w_skip ?_ | refine w_exit ?_ | refine w_ret ?_
    )
      refine ⟨⟨?_, ?_, fun j hj => ?_⟩, ?_, ?_⟩
      · simp only [go_sem, Nat.reduceEqDiff, Nat.reduceAdd, Nat.reduceLeDiff, h0]
      · simp only [go_sem, Nat.reduceEqDiff, Nat.reduceAdd, Nat.reduceLeDiff, h1]
      · by_cases hji : j = i
        · rw [hji]; exact hpi
        · exact h3 j (by omega)
      · simp only [go_sem, Nat.reduceEqDiff, Nat.reduceAdd, Nat.reduceLeDiff, hti]
      · simp only [go_sem, Nat.reduceEqDiff, Nat.reduceAdd, Nat.reduceLeDiff, htn]
  · rintro fr σ ⟨h0, h1, h3⟩
    try simp only [if_true]
    (repeat' first
    | refine w_seq ?_ | refine w_rg ?_ | refine wo_nil ?_ | refine g_skU ?_
    | ((first | apply s_plain | apply s_void | apply s_guard); · simp only [go_sem, Nat.reduceEqDiff, Nat.reduceAdd, Nat.reduceLeDiff]; (first | done | rfl))
    | ((first | apply g_T | apply g_F); · intro hb; simp only [go_sem, Nat.reduceEqDiff, Nat.reduceAdd, Nat.reduceLeDiff, hb]; (first | done | rfl))
    | ((first | apply g_gT | apply g_gF); · intro hb hc; simp only [go_sem, Nat.reduceEqDiff, Nat.reduceAdd, Nat.reduceLeDiff, hb, hc]; (first | done | rfl))
    | refine g_skT ?_ | refine g_skF ?_
    | ((first | apply g_goT | apply g_goF); · simp only [go_sem, Nat.reduceEqDiff, Nat.reduceAdd, Nat.reduceLeDiff]; (first | done | rfl))
    | (refine w_condT ?_ ?_; · simp only [go_sem, Nat.reduceEqDiff, Nat.reduceAdd, Nat.reduceLeDiff]; (first | done | rfl))
    | (refine w_condF ?_ ?_; · simp only [go_sem, Nat.reduceEqDiff, Nat.reduceAdd, Nat.reduceLeDiff]; (first | done | rfl))
    | refine w_skip ?_ | refine w_exit ?_ | refine w_ret ?_
    )
    exact ⟨.inr rfl, by simp only [go_sem, Nat.reduceEqDiff, Nat.reduceAdd, Nat.reduceLeDiff, retOf, resOf, found_none h3]⟩
  · refine ⟨?_, ?_, fun j hj => by omega⟩ <;> simp only [go_sem, Nat.reduceEqDiff, Nat.reduceAdd, Nat.reduceLeDiff]
  · simp only [go_sem, Nat.reduceEqDiff, Nat.reduceAdd, Nat.reduceLeDiff]
  · simp only [go_sem, Nat.reduceEqDiff, Nat.reduceAdd, Nat.reduceLeDiff, hll]
theorem a50 (X : Has lx env) {l : List ByteArray} (hn : l.length ≤ 9223372036854775807) (s : ByteArray) : AV env 50 [.sl (strs l), .sc (.string s)] = some (.sc (.bool (hasN l s))) := by
  have h := a37 X hn s
  refine AV_wp (X (50, d50) (by simp [lx])) rfl ?_
  (repeat' first
    | refine w_seq ?_ | refine w_rg ?_ | refine wo_nil ?_ | refine g_skU ?_
    | ((first | apply s_plain | apply s_void | apply s_guard); · simp only [go_sem, Nat.reduceEqDiff, Nat.reduceAdd, Nat.reduceLeDiff, h]; (first | done | rfl))
    | ((first | apply g_T | apply g_F); · intro hb; simp only [go_sem, Nat.reduceEqDiff, Nat.reduceAdd, Nat.reduceLeDiff, h, hb]; (first | done | rfl))
    | ((first | apply g_gT | apply g_gF); · intro hb hc; simp only [go_sem, Nat.reduceEqDiff, Nat.reduceAdd, Nat.reduceLeDiff, h, hb, hc]; (first | done | rfl))
    | refine g_skT ?_ | refine g_skF ?_
    | ((first | apply g_goT | apply g_goF); · simp only [go_sem, Nat.reduceEqDiff, Nat.reduceAdd, Nat.reduceLeDiff, h]; (first | done | rfl))
    | (refine w_condT ?_ ?_; · simp only [go_sem, Nat.reduceEqDiff, Nat.reduceAdd, Nat.reduceLeDiff, h]; (first | done | rfl))
    | (refine w_condF ?_ ?_; · simp only [go_sem, Nat.reduceEqDiff, Nat.reduceAdd, Nat.reduceLeDiff, h]; (first | done | rfl))
    | refine w_skip ?_ | refine w_exit ?_ | refine w_ret ?_
    )
  exact ⟨.inr rfl, by simp only [go_sem, Nat.reduceEqDiff, Nat.reduceAdd, Nat.reduceLeDiff, retOf, resOf]; rfl⟩
theorem a247 (X : Has lx env) {l : List ByteArray} (hn : l.length ≤ 9223372036854775807) (m : Lab) : AV env 247 [lab m, .fp [.sl (strs l)] 0 0] = some (.sc (.bool (!hasN l m.1))) := by
  have h := a50 X hn m.1
  refine AV_wp (X (247, d247) (by simp [lx])) rfl ?_
  unfold lab
  (repeat' first
    | refine w_seq ?_ | refine w_rg ?_ | refine wo_nil ?_ | refine g_skU ?_
    | ((first | apply s_plain | apply s_void | apply s_guard); · simp only [go_sem, Nat.reduceEqDiff, Nat.reduceAdd, Nat.reduceLeDiff, h]; (first | done | rfl))
    | ((first | apply g_T | apply g_F); · intro hb; simp only [go_sem, Nat.reduceEqDiff, Nat.reduceAdd, Nat.reduceLeDiff, h, hb]; (first | done | rfl))
    | ((first | apply g_gT | apply g_gF); · intro hb hc; simp only [go_sem, Nat.reduceEqDiff, Nat.reduceAdd, Nat.reduceLeDiff, h, hb, hc]; (first | done | rfl))
    | refine g_skT ?_ | refine g_skF ?_
    | ((first | apply g_goT | apply g_goF); · simp only [go_sem, Nat.reduceEqDiff, Nat.reduceAdd, Nat.reduceLeDiff, h]; (first | done | rfl))
    | (refine w_condT ?_ ?_; · simp only [go_sem, Nat.reduceEqDiff, Nat.reduceAdd, Nat.reduceLeDiff, h]; (first | done | rfl))
    | (refine w_condF ?_ ?_; · simp only [go_sem, Nat.reduceEqDiff, Nat.reduceAdd, Nat.reduceLeDiff, h]; (first | done | rfl))
    | refine w_skip ?_ | refine w_exit ?_ | refine w_ret ?_
    )
  exact ⟨.inr rfl, by simp only [go_sem, Nat.reduceEqDiff, Nat.reduceAdd, Nat.reduceLeDiff, retOf, resOf]⟩
def cutN (l : List ByteArray) : List ByteArray := (l.take (min l.length 10)).map (cutS 70)
theorem cutN_len (l : List ByteArray) : (cutN l).length = min l.length 10 := by simp [cutN]
theorem a243 (X : Has lx env) {l : List ByteArray} (hn : l.length ≤ 9223372036854775807) : AV env 243 [.sl (strs l)] = some (.sl (strs (cutN l))) := by
  refine AV_wp (X (243, d243) (by simp [lx])) rfl ?_
  have hll := strs_len l
  have hall : (strs l).all (fun x => (cellsOf x).length == 1) = true := by
    rw [List.all_eq_true]
    intro x hx
    simp only [strs, List.mem_map] at hx
    obtain ⟨m, _, rfl⟩ := hx
    rfl
  (repeat' first
    | refine w_seq ?_ | refine w_rg ?_ | refine wo_nil ?_ | refine g_skU ?_
    | ((first | apply s_plain | apply s_void | apply s_guard); · simp only [go_sem, Nat.reduceEqDiff, Nat.reduceAdd, Nat.reduceLeDiff, hll, mn2]; (first | done | rfl))
    | ((first | apply g_T | apply g_F); · intro hb; simp only [go_sem, Nat.reduceEqDiff, Nat.reduceAdd, Nat.reduceLeDiff, hll, mn2, hb]; (first | done | rfl))
    | ((first | apply g_gT | apply g_gF); · intro hb hc; simp only [go_sem, Nat.reduceEqDiff, Nat.reduceAdd, Nat.reduceLeDiff, hll, mn2, hb, hc]; (first | done | rfl))
    | refine g_skT ?_ | refine g_skF ?_
    | ((first | apply g_goT | apply g_goF); · simp only [go_sem, Nat.reduceEqDiff, Nat.reduceAdd, Nat.reduceLeDiff, hll, mn2]; (first | done | rfl))
    )
  refine s_plain (v := .sl ((strs l).take (min l.length 10))) (σ' := St.nil) (by
    simp only [↓e_slcL]
    have h6 : pa _ (.t 6) = .sl (strs l) := (by simp only [go_sem, Nat.reduceEqDiff, Nat.reduceAdd, Nat.reduceLeDiff] : pa ((((((((frOf [PV.sl (strs l)]).set 2 PV.em).set 3 PV.em).set 6 (PV.sl (strs l))).set 7 (PV.sl (strs l))).set 8 (PV.sc (Value.int IntKind.i64 l.length))).set 9 (PV.sc (Value.int IntKind.i64 (min (l.length : Int) 10))))) (.t 6) = .sl (strs l))
    rw [h6, slcL_cut _ 9 10 1 (strs l) hall (by simp only [go_sem, Nat.reduceEqDiff, Nat.reduceAdd, Nat.reduceLeDiff, hll]; rfl), hll]
    rfl) ?_
  have hlt : ((strs l).take (min l.length 10)).length = min l.length 10 := by rw [List.length_take, hll]; omega
  (repeat' first
    | refine w_seq ?_ | refine w_rg ?_ | refine wo_nil ?_ | refine g_skU ?_
    | ((first | apply s_plain | apply s_void | apply s_guard); · simp only [go_sem, Nat.reduceEqDiff, Nat.reduceAdd, Nat.reduceLeDiff, hlt]; (first | done | rfl))
    | ((first | apply g_T | apply g_F); · intro hb; simp only [go_sem, Nat.reduceEqDiff, Nat.reduceAdd, Nat.reduceLeDiff, hlt, hb]; (first | done | rfl))
    | ((first | apply g_gT | apply g_gF); · intro hb hc; simp only [go_sem, Nat.reduceEqDiff, Nat.reduceAdd, Nat.reduceLeDiff, hlt, hb, hc]; (first | done | rfl))
    | refine g_skT ?_ | refine g_skF ?_
    | ((first | apply g_goT | apply g_goF); · simp only [go_sem, Nat.reduceEqDiff, Nat.reduceAdd, Nat.reduceLeDiff, hlt]; (first | done | rfl))
    )
  refine w_block (w_range (min l.length 10) (by omega) (fun i fr σ => fr 10 = .sl ((strs l).take (min l.length 10)) ∧ Gat σ [23] 1 false (fr 3) ((strs (cutN l)).take i)) (by decide) ?_ ?_ ?_ _ _ ?_ ?_ ?_)
  · rintro i fr σ v ⟨h0, h1⟩
    refine ⟨⟨?_, ?_⟩, ⟨?_, ?_⟩, ⟨?_, ?_⟩⟩ <;> simp only [go_sem, Nat.reduceEqDiff, Nat.reduceAdd, Nat.reduceLeDiff, h0, h1]
  · rintro i fr σ hi ⟨h10, hg⟩ hti htn
    have hil : i < l.length := by omega
    have hx : ((strs l).take (min l.length 10))[i]? = some (.sc (.string l[i])) := by
      rw [List.getElem?_take, if_pos hi]
      exact strs_at (List.getElem?_eq_getElem hil)
    have e1 : (0 : Int) ≤ (i : Int) ∧ (i : Int) < ((min l.length 10 : Nat) : Int) := by omega
    refine w_block ?_
    have b70 : ∀ (n : Nat) (k : IntKind), bound n (.sc (.int k (min (n : Int) 70))) = some (min n 70) := fun n k => bound_min rfl
    (repeat' first
    | refine w_seq ?_ | refine w_rg ?_ | refine wo_nil ?_ | refine g_skU ?_
    | ((first | apply s_plain | apply s_void | apply s_guard); · simp only [go_sem, Nat.reduceEqDiff, Nat.reduceAdd, Nat.reduceLeDiff, h10, hti, e1, hlt, Int.toNat_natCast, hx, mn2, b70, fillE, List.replicate_succ, List.replicate_zero, List.set_cons_zero]; (first | done | rfl))
    | ((first | apply g_T | apply g_F); · intro hb; simp only [go_sem, Nat.reduceEqDiff, Nat.reduceAdd, Nat.reduceLeDiff, h10, hti, e1, hlt, Int.toNat_natCast, hx, mn2, b70, fillE, List.replicate_succ, List.replicate_zero, List.set_cons_zero, hb]; (first | done | rfl))
    | ((first | apply g_gT | apply g_gF); · intro hb hc; simp only [go_sem, Nat.reduceEqDiff, Nat.reduceAdd, Nat.reduceLeDiff, h10, hti, e1, hlt, Int.toNat_natCast, hx, mn2, b70, fillE, List.replicate_succ, List.replicate_zero, List.set_cons_zero, hb, hc]; (first | done | rfl))
    | refine g_skT ?_ | refine g_skF ?_
    | ((first | apply g_goT | apply g_goF); · simp only [go_sem, Nat.reduceEqDiff, Nat.reduceAdd, Nat.reduceLeDiff, h10, hti, e1, hlt, Int.toNat_natCast, hx, mn2, b70, fillE, List.replicate_succ, List.replicate_zero, List.set_cons_zero]; (first | done | rfl))
    )
    have hL : (strs (cutN l)).take (i + 1) = (strs (cutN l)).take i ++ [.sc (.string (cutS 70 l[i]))] := by
      have hlen : i < (strs (cutN l)).length := by rw [strs_len, cutN_len]; exact hi
      rw [List.take_succ_eq_append_getElem hlen]
      congr 1
      simp [strs, cutN]
    have hlen : ((strs (cutN l)).take i).length ≤ 10 := by rw [List.length_take]; omega
    refine s_gatL (os := [23]) (ys := [.sc (.string (cutS 70 l[i]))]) (by simp only [go_sem, Nat.reduceEqDiff, Nat.reduceAdd, Nat.reduceLeDiff]; exact hg.new _) (by simp only [go_sem, Nat.reduceEqDiff, Nat.reduceAdd, Nat.reduceLeDiff, srcOf, elemsOf]; first | done | rfl) rfl (by simp only [List.length_cons, List.length_nil]; omega) ?_
    intro p σ' hg2 _
    rw [← hL] at hg2
    (repeat' first
    | refine w_seq ?_ | refine w_rg ?_ | refine wo_nil ?_ | refine g_skU ?_
    | ((first | apply s_plain | apply s_void | apply s_guard); · simp only [go_sem, Nat.reduceEqDiff, Nat.reduceAdd, Nat.reduceLeDiff]; (first | done | rfl))
    | ((first | apply g_T | apply g_F); · intro hb; simp only [go_sem, Nat.reduceEqDiff, Nat.reduceAdd, Nat.reduceLeDiff, hb]; (first | done | rfl))
    | ((first | apply g_gT | apply g_gF); · intro hb hc; simp only [go_sem, Nat.reduceEqDiff, Nat.reduceAdd, Nat.reduceLeDiff, hb, hc]; (first | done | rfl))
    | refine g_skT ?_ | refine g_skF ?_
    | ((first | apply g_goT | apply g_goF); · simp only [go_sem, Nat.reduceEqDiff, Nat.reduceAdd, Nat.reduceLeDiff]; (first | done | rfl))
    )
    refine ⟨⟨?_, ?_⟩, ?_, ?_⟩
    · simp only [go_sem, Nat.reduceEqDiff, Nat.reduceAdd, Nat.reduceLeDiff, h10]
    · simp only [go_sem, Nat.reduceEqDiff, Nat.reduceAdd, Nat.reduceLeDiff]; exact hg2
    · simp only [go_sem, Nat.reduceEqDiff, Nat.reduceAdd, Nat.reduceLeDiff, hti]
    · simp only [go_sem, Nat.reduceEqDiff, Nat.reduceAdd, Nat.reduceLeDiff, htn]
  · rintro fr σ ⟨h10, hg⟩
    try simp only [if_true]
    rw [List.take_of_length_le (by rw [strs_len, cutN_len]; exact Nat.le_refl _)] at hg
    have hfz := hg.fz (strs_fz σ _)
    (repeat' first
    | refine w_seq ?_ | refine w_rg ?_ | refine wo_nil ?_ | refine g_skU ?_
    | ((first | apply s_plain | apply s_void | apply s_guard); · simp only [go_sem, Nat.reduceEqDiff, Nat.reduceAdd, Nat.reduceLeDiff]; (first | done | rfl))
    | ((first | apply g_T | apply g_F); · intro hb; simp only [go_sem, Nat.reduceEqDiff, Nat.reduceAdd, Nat.reduceLeDiff, hb]; (first | done | rfl))
    | ((first | apply g_gT | apply g_gF); · intro hb hc; simp only [go_sem, Nat.reduceEqDiff, Nat.reduceAdd, Nat.reduceLeDiff, hb, hc]; (first | done | rfl))
    | refine g_skT ?_ | refine g_skF ?_
    | ((first | apply g_goT | apply g_goF); · simp only [go_sem, Nat.reduceEqDiff, Nat.reduceAdd, Nat.reduceLeDiff]; (first | done | rfl))
    | (refine w_condT ?_ ?_; · simp only [go_sem, Nat.reduceEqDiff, Nat.reduceAdd, Nat.reduceLeDiff]; (first | done | rfl))
    | (refine w_condF ?_ ?_; · simp only [go_sem, Nat.reduceEqDiff, Nat.reduceAdd, Nat.reduceLeDiff]; (first | done | rfl))
    | refine w_skip ?_ | refine w_exit ?_ | refine w_ret ?_
    )
    exact ⟨.inr rfl, by simp only [go_sem, Nat.reduceEqDiff, Nat.reduceAdd, Nat.reduceLeDiff, retOf, resOf, hfz]⟩
  · exact ⟨by simp only [go_sem, Nat.reduceEqDiff, Nat.reduceAdd, Nat.reduceLeDiff], by simp only [go_sem, Nat.reduceEqDiff, Nat.reduceAdd, Nat.reduceLeDiff]; exact .em⟩
  · simp only [go_sem, Nat.reduceEqDiff, Nat.reduceAdd, Nat.reduceLeDiff]
  · simp only [go_sem, Nat.reduceEqDiff, Nat.reduceAdd, Nat.reduceLeDiff, hlt]
def keepL (l : List Lab) (ns : List ByteArray) : List Lab := l.filter fun m => hasN ns m.1
/-- Of the first i names: is one of them s? -/
def anyN (ns : List ByteArray) (s : ByteArray) (i : Nat) : Bool := (ns.take i).any fun n => n.toList == s.toList
theorem anyN_succ {ns : List ByteArray} {s : ByteArray} {i : Nat} (hi : i < ns.length) : anyN ns s (i + 1) = (anyN ns s i || (ns[i].toList == s.toList)) := by
  unfold anyN
  rw [List.take_succ_eq_append_getElem hi, List.any_append]
  simp
theorem anyN_all (ns : List ByteArray) (s : ByteArray) : anyN ns s ns.length = hasN ns s := by
  unfold anyN
  rw [List.take_of_length_le (Nat.le_refl _), Bool.eq_iff_iff]
  unfold hasN
  rw [List.any_eq_true, decide_eq_true_iff]
  constructor
  · rintro ⟨n, hn, he⟩
    obtain ⟨i, hi, rfl⟩ := List.getElem_of_mem hn
    obtain ⟨j, h1, _⟩ := found_is (p := isS ns s) hi (by unfold isS; rw [nthS_eq hi]; simp only [beq_iff_eq] at he ⊢; exact he.symm)
    rw [h1]; omega
  · intro h
    obtain ⟨i, h1, h2⟩ := found_lt (p := isS ns s) (n := ns.length) (by omega)
    refine ⟨ns[i], List.getElem_mem h2, ?_⟩
    have hp : isS ns s i = true := by
      unfold found at h1
      cases hf : (List.range ns.length).find? (isS ns s) with
      | none => rw [hf] at h1; simp at h1
      | some k =>
        rw [hf] at h1
        simp only [Int.natCast_inj] at h1
        have := List.find?_some hf
        rwa [h1] at this
    unfold isS at hp
    rw [nthS_eq h2] at hp
    simp only [beq_iff_eq] at hp ⊢
    exact hp.symm
end
end Go.Proofs.YtjijlmfhnkipmaaDoorPv
namespace Go.Proofs.YtjijlmfhnkipmaaDoorPv
open Go
set_option linter.unusedSimpArgs false
set_option linter.unusedVariables false
set_option maxHeartbeats 4000000
attribute [local go_sem ↓] e_mv e_pick e_bin e_eqs e_beq e_un e_cvi e_str e_s2b e_b2s e_box e_build e_bsl e_ld e_st e_nck e_mkf e_slcS e_slcL e_fa e_fld e_ia e_iaa e_ix e_ixa e_ext e_lenS e_lenL e_mnmx e_app e_appb e_bbx e_msl e_clr e_call e_callv pa_t pa_c pa_f slcSP_str hiOf_some hiOf_none loOf_some loOf_none set_eq set_ne
attribute [local go_sem] pv pv1 simple frOf_0 frOf_1 frOf_2 frOf_3 frOf_4 frOf_5 ne_eq not_false_eq_true if_true Bool.false_eq_true if_false pbin punary Option.map_some Option.bind_some pick_and pick_or opt_true Bool.true_and Bool.and_self Bool.and_true Bool.true_or Bool.false_or Bool.not_true Bool.not_false callE pcall_eq List.map_cons List.map_nil List.append_nil List.nil_append List.cons_append mapM_cons' mapM_nil' dep_eq fz_sc fz_sl fz_em fz_fn fz_fp fz_agg fz_tu fz_bx fz_ob Nat.lt_irrefl Nat.zero_lt_one Nat.lt_add_one flat clL cl Bool.or_true okc_sc okc_em okc_sl okc_ob okc_bx okc_fp okc_fn okc_agg okc_ifc cells_agg cells_sc cells_sl cells_em cells_ob cells_fn cells_bx cells_fp List.length_cons List.length_nil Nat.zero_add and_self true_and and_true new_m new_c put_m put_c nil_m nil_c deref List.getElem?_cons_zero List.getElem?_cons_succ List.drop_zero List.drop_succ_cons List.take_succ_cons List.take_zero Nat.le_refl false_and and_false decide_true decide_false lenP_em lenP_nil lenP_sl lenP_ob Int.ofNat_zero
set_option maxRecDepth 8000
/-- transhipment/label.Parse -/
def d204 : Def := (.code 1 [.tmp 2, .tmp 3] (.seq (.rg false [⟨.some 2, .none, .mv (.c (.slice .none 0 0))⟩, ⟨.some 3, .none, .mv (.c (.int .i64 0))⟩]) (.seq (.rg false [⟨.some 13, .none, .mv (.t 0)⟩, ⟨.some 14, .none, .call 54 .pure [.t 13, .c (.string ⟨#[123]⟩)]⟩, ⟨.some 12, .none, .mv (.t 14)⟩, ⟨.some 15, .none, .ext (.t 12) 0⟩, ⟨.some 16, .none, .ext (.t 12) 1⟩, ⟨.some 4, .none, .mv (.t 15)⟩, ⟨.some 5, .none, .mv (.t 16)⟩]) (.seq (.rg false [⟨.some 6, .none, .mv (.c (.slice .none 0 0))⟩]) (.seq (.block 0 (.loop (.seq (.seq (.rg false [⟨.some 17, .none, .mv (.t 5)⟩, ⟨.some 18, .none, .mv (.t 17)⟩, ⟨.some 19, .some (18, true), .mv (.t 4)⟩, ⟨.some 20, .some (18, true), .bin .neq (.t 19) (.c (.string ⟨#[125]⟩))⟩, ⟨.some 21, .none, .pick (.t 18) (.t 20) (.c (.bool false))⟩, ⟨.some 22, .none, .mv (.t 21)⟩, ⟨.some 23, .some (22, true), .mv (.t 6)⟩, ⟨.some 24, .some (22, true), .lenL (.t 23)⟩, ⟨.some 25, .some (22, true), .bin .leq (.t 24) (.c (.int .i64 8))⟩, ⟨.some 26, .none, .pick (.t 22) (.t 25) (.c (.bool false))⟩]) (.cond (.t 26) .skip (.exit 0))) (.block 1 (.seq (.seq (.rg false [⟨.some 27, .none, .mv (.t 6)⟩, ⟨.some 28, .none, .lenL (.t 27)⟩, ⟨.some 29, .none, .bin .gtr (.t 28) (.c (.int .i64 0))⟩]) (.cond (.t 29) (.rg false [⟨.some 31, .none, .mv (.t 4)⟩, ⟨.some 32, .none, .call 54 .pure [.t 31, .c (.string ⟨#[44]⟩)]⟩, ⟨.some 30, .none, .mv (.t 32)⟩, ⟨.some 33, .none, .ext (.t 30) 0⟩, ⟨.some 34, .none, .ext (.t 30) 1⟩, ⟨.some 4, .none, .mv (.t 33)⟩, ⟨.some 5, .none, .mv (.t 34)⟩]) .skip)) (.seq (.rg false [⟨.some 36, .none, .mv (.t 4)⟩, ⟨.some 37, .none, .call 213 .pure [.t 36]⟩, ⟨.some 35, .none, .mv (.t 37)⟩, ⟨.some 38, .none, .ext (.t 35) 0⟩, ⟨.some 39, .none, .ext (.t 35) 1⟩, ⟨.some 40, .none, .ext (.t 35) 2⟩, ⟨.some 7, .none, .box (.c (.agg #[.string ⟨#[]⟩, .string ⟨#[]⟩]))⟩, ⟨.none, .none, .st 2 (.t 7) (.t 38)⟩, ⟨.some 8, .none, .mv (.t 39)⟩, ⟨.some 9, .none, .mv (.t 40)⟩]) (.seq (.seq (.rg false [⟨.some 41, .none, .mv (.t 5)⟩, ⟨.some 42, .none, .un .not (.t 41)⟩, ⟨.some 43, .none, .mv (.t 42)⟩, ⟨.some 44, .some (43, false), .mv (.t 9)⟩, ⟨.some 45, .some (43, false), .un .not (.t 44)⟩, ⟨.some 46, .none, .pick (.t 43) (.c (.bool true)) (.t 45)⟩]) (.cond (.t 46) (.seq (.rg false [⟨.some 2, .none, .mv (.c (.slice .none 0 0))⟩, ⟨.some 3, .none, .mv (.c (.int .i64 6))⟩]) .ret) .skip)) (.rg false [⟨.some 47, .none, .mv (.t 6)⟩, ⟨.some 48, .none, .ld (.some 2) (.t 7)⟩, ⟨.some 49, .none, .bsl 2 (.agg #[.string ⟨#[]⟩, .string ⟨#[]⟩]) 1 [(0, .t 48)]⟩, ⟨.some 50, .none, .app 2 32 false (.t 47) (.t 49)⟩, ⟨.some 51, .none, .mv (.t 8)⟩, ⟨.some 6, .none, .mv (.t 50)⟩, ⟨.some 4, .none, .mv (.t 51)⟩])))))))) (.seq (.seq (.rg false [⟨.some 53, .none, .mv (.t 6)⟩, ⟨.some 54, .none, .call 202 .pure [.t 53]⟩, ⟨.some 52, .none, .mv (.t 54)⟩, ⟨.some 55, .none, .ext (.t 52) 0⟩, ⟨.some 56, .none, .ext (.t 52) 1⟩, ⟨.some 10, .none, .mv (.t 55)⟩, ⟨.some 11, .none, .mv (.t 56)⟩]) (.seq (.rg false [⟨.some 57, .none, .mv (.t 5)⟩, ⟨.some 58, .none, .un .not (.t 57)⟩, ⟨.some 59, .none, .mv (.t 58)⟩, ⟨.some 60, .some (59, false), .mv (.t 11)⟩, ⟨.some 61, .some (59, false), .bin .neq (.t 60) (.c (.int .i64 0))⟩, ⟨.some 62, .none, .pick (.t 59) (.c (.bool true)) (.t 61)⟩, ⟨.some 63, .none, .mv (.t 62)⟩, ⟨.some 64, .some (63, false), .mv (.t 10)⟩, ⟨.some 65, .some (63, false), .mv (.t 0)⟩, ⟨.some 66, .some (63, false), .bin .neq (.t 64) (.t 65)⟩, ⟨.some 67, .none, .pick (.t 63) (.c (.bool true)) (.t 66)⟩]) (.cond (.t 67) (.seq (.rg false [⟨.some 2, .none, .mv (.c (.slice .none 0 0))⟩, ⟨.some 3, .none, .mv (.c (.int .i64 6))⟩]) .ret) .skip))) (.seq (.rg false [⟨.some 68, .none, .mv (.t 6)⟩, ⟨.some 2, .none, .mv (.t 68)⟩, ⟨.some 3, .none, .mv (.c (.int .i64 0))⟩]) .ret)))))))
def lcd : List (Nat × Def) := [(204, d204)]
section
variable {env : Nat → Option Def} {fr : Fr} {σ σ' σ'' : St} {K : Fr → St → Prop} {Q : X → Fr → St → Prop} {p : PV} {bs : List UInt8}
theorem Gat.lenP {os : List Nat} {es : Nat} {w : Bool} {p : PV} {xs : List PV} (h : Gat σ os es w p xs) : lenP p = some xs.length := by
  rcases h with ⟨rfl, rfl⟩ | ⟨o, g, wr, _, rfl, _⟩ <;> rfl
theorem scan_le : ∀ (k : Nat) (s acc v r : List UInt8), s.length ≤ k → scan s acc = some (v, r) → v.length + r.length ≤ s.length + acc.length
  | _, [], acc, v, r, _, h => by simp [scan] at h
  | _, [c], acc, v, r, _, h => by
    simp only [scan] at h
    split at h
    · simp only [Option.some.injEq, Prod.mk.injEq] at h
      obtain ⟨rfl, rfl⟩ := h
      simp
    · cases h
  | 0, c :: d :: s, acc, v, r, hk, h => by simp at hk
  | k + 1, c :: d :: s, acc, v, r, hk, h => by
    simp only [scan] at h
    simp only [List.length_cons] at hk
    split at h
    · simp only [Option.some.injEq, Prod.mk.injEq] at h
      obtain ⟨rfl, rfl⟩ := h
      simp only [List.length_cons]; omega
    · split at h
      · have := scan_le k s _ v r (by omega) h
        simp at this ⊢; omega
      · have := scan_le k (d :: s) _ v r (by simp; omega) h
        simp at this ⊢; omega
theorem oneL_le {s n v r : List UInt8} (h : oneL s = some (n, v, r)) : n.length ≤ s.length ∧ v.length ≤ s.length ∧ r.length ≤ s.length := by
  unfold oneL at h
  obtain ⟨h1, h2⟩ := cut_le s [61, 34]
  split at h
  · obtain ⟨q, hq, h⟩ := Option.map_eq_some_iff.1 h
    simp only [Prod.mk.injEq] at h
    obtain ⟨rfl, rfl, rfl⟩ := h
    have := scan_le _ _ _ q.1 q.2 (Nat.le_refl _) hq
    simp at this
    omega
  · cases h
theorem cutPre_le (s t : List UInt8) : (cutPre s t).length ≤ s.length := by
  unfold cutPre; split <;> simp
theorem labs_fzd (σ : St) (d : Nat) (l : List Lab) : (labs l).mapM (fz σ (d + 2)) = some (labs l) := by
  induction l with
  | nil => rfl
  | cons m r ih =>
    show List.mapM (fz σ (d + 2)) (lab m :: labs r) = _
    rw [mapM_cons', ih]
    rfl
theorem gat_fzd {os : List Nat} {es d : Nat} {w : Bool} {p : PV} {xs : List PV} (h : Gat σ os es w p xs) (hx : xs.mapM (fz σ d) = some xs) : fz σ (d + 1) p = some (.sl xs) := by
  rcases h with ⟨rfl, rfl⟩ | ⟨o, g, wr, _, rfl, h2, _⟩
  · rfl
  · rw [fz_ob, h2]
    simp [hx]
theorem lab_mk (n v : List UInt8) : lab (mkLab n v) = .agg [txt n, txt v] := rfl
theorem a204 (H : Has la0 env) (G : Has lc env) (P : Has lp env) (U : Has lu env) (C : Has lca env) (D : Has lcb env) (B : Has lbb env) (S : Has lbs env) (T : Has lcc env) (V : Has lcd env) {s : List UInt8} (hs : s.length ≤ 4000000000) :
    AV env 204 [txt s] = some (.tu [.sl (labs (parseS s).1), .sc (.int .i64 (parseS s).2)]) := by
  have hpre := a54 D (s := s) (t := [123])
  refine AV_wp (V (204, d204) (by simp [lcd])) rfl ?_
  (repeat' first
    | refine w_seq ?_ | refine w_rg ?_ | refine wo_nil ?_ | refine g_skU ?_
    | ((first | apply s_plain | apply s_void | apply s_guard); · simp only [go_sem, Nat.reduceEqDiff, Nat.reduceAdd, Nat.reduceLeDiff, hpre]; (first | done | rfl))
    | ((first | apply g_T | apply g_F); · intro hb; simp only [go_sem, Nat.reduceEqDiff, Nat.reduceAdd, Nat.reduceLeDiff, hpre, hb]; (first | done | rfl))
    | ((first | apply g_gT | apply g_gF); · intro hb hc; simp only [go_sem, Nat.reduceEqDiff, Nat.reduceAdd, Nat.reduceLeDiff, hpre, hb, hc]; (first | done | rfl))
    | refine g_skT ?_ | refine g_skF ?_
    | ((first | apply g_goT | apply g_goF); · simp only [go_sem, Nat.reduceEqDiff, Nat.reduceAdd, Nat.reduceLeDiff, hpre]; (first | done | rfl))
    )
  -- what is read, and what comes of it
  refine w_block (w_loopF (fun m fr σ => ∃ (k : Nat) (rest : List UInt8) (out : List Lab) (is : Bool), m = k ∧ k + out.length = 9 ∧ is = [123].isPrefixOf s ∧ fr 4 = txt rest ∧ fr 5 = .sc (.bool is) ∧ Gat σ [50] 2 false (fr 6) (labs out) ∧ rest.length ≤ s.length ∧
      (∀ m ∈ out, m.1.size ≤ s.length ∧ m.2.size ≤ s.length) ∧ (is = true → pl 9 (s.drop 1) [] = pl k rest out) ∧ (is = false → out = [])) ?_ 9 ?_)
  · rintro m fr1 σ1 ⟨k, rest, out, is, rfl, hk, his, f4, f5, hg, hr, hsm, hpl, hno⟩ hfr
    skip
    have z0 : fr1 0 = txt s := by rw [hfr 0 rfl]; simp only [go_sem, Nat.reduceEqDiff, Nat.reduceAdd, Nat.reduceLeDiff]
    have hlp := hg.lenP
    rw [labs_len] at hlp
    generalize hp : fr1 6 = p at hg hlp
    (repeat' first
    | refine w_seq ?_ | refine w_rg ?_ | refine wo_nil ?_ | refine g_skU ?_
    | ((first | apply s_plain | apply s_void | apply s_guard); · simp only [go_sem, Nat.reduceEqDiff, Nat.reduceAdd, Nat.reduceLeDiff, true_and, f4, f5, hp, hlp, ba_data, ba_size, ba_toList, ba_extract, ba_append, List.toList_toArray]; (first | done | rfl))
    | ((first | apply g_T | apply g_F); · intro hb; simp only [go_sem, Nat.reduceEqDiff, Nat.reduceAdd, Nat.reduceLeDiff, true_and, f4, f5, hp, hlp, ba_data, ba_size, ba_toList, ba_extract, ba_append, List.toList_toArray, hb]; (first | done | rfl))
    | ((first | apply g_gT | apply g_gF); · intro hb hc; simp only [go_sem, Nat.reduceEqDiff, Nat.reduceAdd, Nat.reduceLeDiff, true_and, f4, f5, hp, hlp, ba_data, ba_size, ba_toList, ba_extract, ba_append, List.toList_toArray, hb, hc]; (first | done | rfl))
    | refine g_skT ?_ | refine g_skF ?_
    | ((first | apply g_goT | apply g_goF); · simp only [go_sem, Nat.reduceEqDiff, Nat.reduceAdd, Nat.reduceLeDiff, true_and, f4, f5, hp, hlp, ba_data, ba_size, ba_toList, ba_extract, ba_append, List.toList_toArray]; (first | done | rfl))
    )
    refine w_condB (b := is && !(rest == [125]) && decide ((out.length : Int) ≤ 8)) (by simp only [go_sem, Nat.reduceEqDiff, Nat.reduceAdd, Nat.reduceLeDiff]; first | done | rfl) (fun hc => ?_) (fun hc => ?_)
    · simp only [Bool.and_eq_true, Bool.not_eq_true', beq_eq_false_iff_ne, decide_eq_true_eq] at hc
      obtain ⟨⟨rfl, hne⟩, h8⟩ := hc
      obtain ⟨k', rfl⟩ : ∃ k', m = k' + 1 := ⟨m - 1, by omega⟩
      have hpl1 := (hpl rfl).trans (show pl (k' + 1) rest out = if out ≠ [] ∧ [44].isPrefixOf rest = false then none else (oneL (if out = [] then rest else cutPre rest [44])).bind fun q => pl k' q.2.2 (out ++ [mkLab q.1 q.2.1]) by rw [pl, if_neg hne])
      refine w_skip ?_
      refine w_block ?_
      refine w_seq ?_
      refine Wp.mono (Q := fun x fr τ => x = .normal ∧ fr 4 = txt (if out = [] then rest else cutPre rest [44]) ∧ fr 5 = .sc (.bool (if out = [] then true else [44].isPrefixOf rest)) ∧ fr 6 = p ∧ fr 0 = txt s ∧ τ = σ1) ?_ ?_
      · have h54 := a54 D (s := rest) (t := [44])
        (repeat' first
    | refine w_seq ?_ | refine w_rg ?_ | refine wo_nil ?_ | refine g_skU ?_
    | ((first | apply s_plain | apply s_void | apply s_guard); · simp only [go_sem, Nat.reduceEqDiff, Nat.reduceAdd, Nat.reduceLeDiff, true_and, hp, hlp]; (first | done | rfl))
    | ((first | apply g_T | apply g_F); · intro hb; simp only [go_sem, Nat.reduceEqDiff, Nat.reduceAdd, Nat.reduceLeDiff, true_and, hp, hlp, hb]; (first | done | rfl))
    | ((first | apply g_gT | apply g_gF); · intro hb hc; simp only [go_sem, Nat.reduceEqDiff, Nat.reduceAdd, Nat.reduceLeDiff, true_and, hp, hlp, hb, hc]; (first | done | rfl))
    | refine g_skT ?_ | refine g_skF ?_
    | ((first | apply g_goT | apply g_goF); · simp only [go_sem, Nat.reduceEqDiff, Nat.reduceAdd, Nat.reduceLeDiff, true_and, hp, hlp]; (first | done | rfl))
    )
        by_cases ho : out = []
        · subst ho
          (repeat' first
    | refine w_seq ?_ | refine w_rg ?_ | refine wo_nil ?_ | refine g_skU ?_
    | ((first | apply s_plain | apply s_void | apply s_guard); · simp only [go_sem, Nat.reduceEqDiff, Nat.reduceAdd, Nat.reduceLeDiff]; (first | done | rfl))
    | ((first | apply g_T | apply g_F); · intro hb; simp only [go_sem, Nat.reduceEqDiff, Nat.reduceAdd, Nat.reduceLeDiff, hb]; (first | done | rfl))
    | ((first | apply g_gT | apply g_gF); · intro hb hc; simp only [go_sem, Nat.reduceEqDiff, Nat.reduceAdd, Nat.reduceLeDiff, hb, hc]; (first | done | rfl))
    | refine g_skT ?_ | refine g_skF ?_
    | ((first | apply g_goT | apply g_goF); · simp only [go_sem, Nat.reduceEqDiff, Nat.reduceAdd, Nat.reduceLeDiff]; (first | done | rfl))
    | (refine w_condT ?_ ?_; · simp only [go_sem, Nat.reduceEqDiff, Nat.reduceAdd, Nat.reduceLeDiff]; (first | done | rfl))
    | (refine w_condF ?_ ?_; · simp only [go_sem, Nat.reduceEqDiff, Nat.reduceAdd, Nat.reduceLeDiff]; (first | done | rfl))
    | refine w_skip ?_ | refine w_exit ?_ | refine w_ret ?_
    )
          refine ⟨rfl, ?_, ?_, ?_, ?_, rfl⟩ <;> simp only [go_sem, Nat.reduceEqDiff, Nat.reduceAdd, Nat.reduceLeDiff, z0, f4, f5, hp, if_true]
        · have hpos : 0 < out.length := List.length_pos_iff.2 ho
          have hd : decide ((out.length : Int) > 0) = true := by simpa using hpos
          (repeat' first
    | refine w_seq ?_ | refine w_rg ?_ | refine wo_nil ?_ | refine g_skU ?_
    | ((first | apply s_plain | apply s_void | apply s_guard); · simp only [go_sem, Nat.reduceEqDiff, Nat.reduceAdd, Nat.reduceLeDiff, hd, f4, h54]; (first | done | rfl))
    | ((first | apply g_T | apply g_F); · intro hb; simp only [go_sem, Nat.reduceEqDiff, Nat.reduceAdd, Nat.reduceLeDiff, hd, f4, h54, hb]; (first | done | rfl))
    | ((first | apply g_gT | apply g_gF); · intro hb hc; simp only [go_sem, Nat.reduceEqDiff, Nat.reduceAdd, Nat.reduceLeDiff, hd, f4, h54, hb, hc]; (first | done | rfl))
    | refine g_skT ?_ | refine g_skF ?_
    | ((first | apply g_goT | apply g_goF); · simp only [go_sem, Nat.reduceEqDiff, Nat.reduceAdd, Nat.reduceLeDiff, hd, f4, h54]; (first | done | rfl))
    | (refine w_condT ?_ ?_; · simp only [go_sem, Nat.reduceEqDiff, Nat.reduceAdd, Nat.reduceLeDiff, hd, f4, h54]; (first | done | rfl))
    | (refine w_condF ?_ ?_; · simp only [go_sem, Nat.reduceEqDiff, Nat.reduceAdd, Nat.reduceLeDiff, hd, f4, h54]; (first | done | rfl))
    | refine w_skip ?_ | refine w_exit ?_ | refine w_ret ?_
    )
          refine ⟨rfl, ?_, ?_, ?_, ?_, rfl⟩ <;> simp only [go_sem, Nat.reduceEqDiff, Nat.reduceAdd, Nat.reduceLeDiff, z0, f4, f5, hp, ho]
      · rintro x fr2 τ ⟨rfl, g4, g5, g6, g0, rfl⟩
        have hrl : (if out = [] then rest else cutPre rest [44]).length ≤ s.length := by
          split
          · exact hr
          · exact Nat.le_trans (cutPre_le _ _) hr
        have hr1 : (if out ≠ [] ∧ [44].isPrefixOf rest = false then none else (oneL (if out = [] then rest else cutPre rest [44])).bind fun q => pl k' q.2.2 (out ++ [mkLab q.1 q.2.1])) =
          if (if out = [] then true else [44].isPrefixOf rest) = false then none else (oneL (if out = [] then rest else cutPre rest [44])).bind fun q => pl k' q.2.2 (out ++ [mkLab q.1 q.2.1]) := by
          by_cases ho : out = [] <;> simp [ho]
        rw [hr1] at hpl1
        generalize (if out = [] then rest else cutPre rest [44]) = r1 at *
        generalize (if out = [] then true else [44].isPrefixOf rest) = is1 at *
        have h213 := a213 C B S T (s := r1) (by omega)
        have hbad : pl 9 (s.drop 1) [] = none → parseS s = ([], 6) := fun e => by unfold parseS; rw [← his, if_pos rfl, e]
        cases hone : oneL r1 with
        | none =>
          rw [hone] at hpl1
          have hb := hbad (by rw [hpl1]; simp)
          rw [show oneA r1 = .tu [.agg [txt [], txt []], txt [], .sc (.bool false)] by unfold oneA; rw [hone]] at h213
          (repeat' first
    | refine w_seq ?_ | refine w_rg ?_ | refine wo_nil ?_ | refine g_skU ?_
    | ((first | apply s_plain | apply s_void | apply s_guard); · simp only [go_sem, Nat.reduceEqDiff, Nat.reduceAdd, Nat.reduceLeDiff, g4, g5, h213, splice, fillP, fillE, List.modify_zero_cons, List.replicate_succ, List.replicate_zero, List.set_cons_zero, List.drop_zero]; (first | done | rfl))
    | ((first | apply g_T | apply g_F); · intro hb; simp only [go_sem, Nat.reduceEqDiff, Nat.reduceAdd, Nat.reduceLeDiff, g4, g5, h213, splice, fillP, fillE, List.modify_zero_cons, List.replicate_succ, List.replicate_zero, List.set_cons_zero, List.drop_zero, hb]; (first | done | rfl))
    | ((first | apply g_gT | apply g_gF); · intro hb hc; simp only [go_sem, Nat.reduceEqDiff, Nat.reduceAdd, Nat.reduceLeDiff, g4, g5, h213, splice, fillP, fillE, List.modify_zero_cons, List.replicate_succ, List.replicate_zero, List.set_cons_zero, List.drop_zero, hb, hc]; (first | done | rfl))
    | refine g_skT ?_ | refine g_skF ?_
    | ((first | apply g_goT | apply g_goF); · simp only [go_sem, Nat.reduceEqDiff, Nat.reduceAdd, Nat.reduceLeDiff, g4, g5, h213, splice, fillP, fillE, List.modify_zero_cons, List.replicate_succ, List.replicate_zero, List.set_cons_zero, List.drop_zero]; (first | done | rfl))
    | (refine w_condT ?_ ?_; · simp only [go_sem, Nat.reduceEqDiff, Nat.reduceAdd, Nat.reduceLeDiff, g4, g5, h213, splice, fillP, fillE, List.modify_zero_cons, List.replicate_succ, List.replicate_zero, List.set_cons_zero, List.drop_zero]; (first | done | rfl))
    | (refine w_condF ?_ ?_; · simp only [go_sem, Nat.reduceEqDiff, Nat.reduceAdd, Nat.reduceLeDiff, g4, g5, h213, splice, fillP, fillE, List.modify_zero_cons, List.replicate_succ, List.replicate_zero, List.set_cons_zero, List.drop_zero]; (first | done | rfl))
    | refine w_skip ?_ | refine w_exit ?_ | refine w_ret ?_
    )
          exact ⟨by first | exact .inr rfl | exact .inl rfl, by simp only [go_sem, Nat.reduceEqDiff, Nat.reduceAdd, Nat.reduceLeDiff, retOf, resOf, hb]; first | done | rfl⟩
        | some q =>
          obtain ⟨n, v, r⟩ := q
          obtain ⟨z1, z2, z3⟩ := oneL_le hone
          rw [hone] at hpl1
          rw [show oneA r1 = .tu [.agg [txt n, txt v], txt r, .sc (.bool true)] by unfold oneA; rw [hone]] at h213
          cases is1 with
          | false =>
            have hb := hbad (by rw [hpl1]; simp)
            (repeat' first
    | refine w_seq ?_ | refine w_rg ?_ | refine wo_nil ?_ | refine g_skU ?_
    | ((first | apply s_plain | apply s_void | apply s_guard); · simp only [go_sem, Nat.reduceEqDiff, Nat.reduceAdd, Nat.reduceLeDiff, g4, g5, h213, splice, fillP, fillE, List.modify_zero_cons, List.replicate_succ, List.replicate_zero, List.set_cons_zero, List.drop_zero]; (first | done | rfl))
    | ((first | apply g_T | apply g_F); · intro hb; simp only [go_sem, Nat.reduceEqDiff, Nat.reduceAdd, Nat.reduceLeDiff, g4, g5, h213, splice, fillP, fillE, List.modify_zero_cons, List.replicate_succ, List.replicate_zero, List.set_cons_zero, List.drop_zero, hb]; (first | done | rfl))
    | ((first | apply g_gT | apply g_gF); · intro hb hc; simp only [go_sem, Nat.reduceEqDiff, Nat.reduceAdd, Nat.reduceLeDiff, g4, g5, h213, splice, fillP, fillE, List.modify_zero_cons, List.replicate_succ, List.replicate_zero, List.set_cons_zero, List.drop_zero, hb, hc]; (first | done | rfl))
    | refine g_skT ?_ | refine g_skF ?_
    | ((first | apply g_goT | apply g_goF); · simp only [go_sem, Nat.reduceEqDiff, Nat.reduceAdd, Nat.reduceLeDiff, g4, g5, h213, splice, fillP, fillE, List.modify_zero_cons, List.replicate_succ, List.replicate_zero, List.set_cons_zero, List.drop_zero]; (first | done | rfl))
    | (refine w_condT ?_ ?_; · simp only [go_sem, Nat.reduceEqDiff, Nat.reduceAdd, Nat.reduceLeDiff, g4, g5, h213, splice, fillP, fillE, List.modify_zero_cons, List.replicate_succ, List.replicate_zero, List.set_cons_zero, List.drop_zero]; (first | done | rfl))
    | (refine w_condF ?_ ?_; · simp only [go_sem, Nat.reduceEqDiff, Nat.reduceAdd, Nat.reduceLeDiff, g4, g5, h213, splice, fillP, fillE, List.modify_zero_cons, List.replicate_succ, List.replicate_zero, List.set_cons_zero, List.drop_zero]; (first | done | rfl))
    | refine w_skip ?_ | refine w_exit ?_ | refine w_ret ?_
    )
            exact ⟨by first | exact .inr rfl | exact .inl rfl, by simp only [go_sem, Nat.reduceEqDiff, Nat.reduceAdd, Nat.reduceLeDiff, retOf, resOf, hb]; first | done | rfl⟩
          | true =>
            (repeat' first
    | refine w_seq ?_ | refine w_rg ?_ | refine wo_nil ?_ | refine g_skU ?_
    | ((first | apply s_plain | apply s_void | apply s_guard); · simp only [go_sem, Nat.reduceEqDiff, Nat.reduceAdd, Nat.reduceLeDiff, g4, g5, g6, h213, splice, fillP, fillE, List.modify_zero_cons, List.replicate_succ, List.replicate_zero, List.set_cons_zero, List.drop_zero]; (first | done | rfl))
    | ((first | apply g_T | apply g_F); · intro hb; simp only [go_sem, Nat.reduceEqDiff, Nat.reduceAdd, Nat.reduceLeDiff, g4, g5, g6, h213, splice, fillP, fillE, List.modify_zero_cons, List.replicate_succ, List.replicate_zero, List.set_cons_zero, List.drop_zero, hb]; (first | done | rfl))
    | ((first | apply g_gT | apply g_gF); · intro hb hc; simp only [go_sem, Nat.reduceEqDiff, Nat.reduceAdd, Nat.reduceLeDiff, g4, g5, g6, h213, splice, fillP, fillE, List.modify_zero_cons, List.replicate_succ, List.replicate_zero, List.set_cons_zero, List.drop_zero, hb, hc]; (first | done | rfl))
    | refine g_skT ?_ | refine g_skF ?_
    | ((first | apply g_goT | apply g_goF); · simp only [go_sem, Nat.reduceEqDiff, Nat.reduceAdd, Nat.reduceLeDiff, g4, g5, g6, h213, splice, fillP, fillE, List.modify_zero_cons, List.replicate_succ, List.replicate_zero, List.set_cons_zero, List.drop_zero]; (first | done | rfl))
    | (refine w_condT ?_ ?_; · simp only [go_sem, Nat.reduceEqDiff, Nat.reduceAdd, Nat.reduceLeDiff, g4, g5, g6, h213, splice, fillP, fillE, List.modify_zero_cons, List.replicate_succ, List.replicate_zero, List.set_cons_zero, List.drop_zero]; (first | done | rfl))
    | (refine w_condF ?_ ?_; · simp only [go_sem, Nat.reduceEqDiff, Nat.reduceAdd, Nat.reduceLeDiff, g4, g5, g6, h213, splice, fillP, fillE, List.modify_zero_cons, List.replicate_succ, List.replicate_zero, List.set_cons_zero, List.drop_zero]; (first | done | rfl))
    | refine w_skip ?_ | refine w_exit ?_ | refine w_ret ?_
    )
            refine s_gat (os := [50]) (w := false) (xs := labs out) (e := .agg [txt n, txt v]) (by simp only [go_sem, Nat.reduceEqDiff, Nat.reduceAdd, Nat.reduceLeDiff]; exact ((hg.new _).put (d := 2000007) (by decide) _).new _) (by decide) (by simp only [go_sem, Nat.reduceEqDiff, Nat.reduceAdd, Nat.reduceLeDiff, srcOf, elemsOf, List.drop_zero]) rfl rfl (by rw [labs_len]; omega) ?_
            intro p2 σ2 hg2
            (repeat' first
    | refine w_seq ?_ | refine w_rg ?_ | refine wo_nil ?_ | refine g_skU ?_
    | ((first | apply s_plain | apply s_void | apply s_guard); · simp only [go_sem, Nat.reduceEqDiff, Nat.reduceAdd, Nat.reduceLeDiff]; (first | done | rfl))
    | ((first | apply g_T | apply g_F); · intro hb; simp only [go_sem, Nat.reduceEqDiff, Nat.reduceAdd, Nat.reduceLeDiff, hb]; (first | done | rfl))
    | ((first | apply g_gT | apply g_gF); · intro hb hc; simp only [go_sem, Nat.reduceEqDiff, Nat.reduceAdd, Nat.reduceLeDiff, hb, hc]; (first | done | rfl))
    | refine g_skT ?_ | refine g_skF ?_
    | ((first | apply g_goT | apply g_goF); · simp only [go_sem, Nat.reduceEqDiff, Nat.reduceAdd, Nat.reduceLeDiff]; (first | done | rfl))
    | (refine w_condT ?_ ?_; · simp only [go_sem, Nat.reduceEqDiff, Nat.reduceAdd, Nat.reduceLeDiff]; (first | done | rfl))
    | (refine w_condF ?_ ?_; · simp only [go_sem, Nat.reduceEqDiff, Nat.reduceAdd, Nat.reduceLeDiff]; (first | done | rfl))
    | refine w_skip ?_ | refine w_exit ?_ | refine w_ret ?_
    )
            refine ⟨k', by omega, k', r, out ++ [mkLab n v], true, rfl, by simp; omega, his, by simp only [go_sem, Nat.reduceEqDiff, Nat.reduceAdd, Nat.reduceLeDiff], by simp only [go_sem, Nat.reduceEqDiff, Nat.reduceAdd, Nat.reduceLeDiff, g5], ?_, by omega, ?_, fun _ => by rw [hpl1]; rfl, fun h => by cases h⟩
            · simp only [go_sem, Nat.reduceEqDiff, Nat.reduceAdd, Nat.reduceLeDiff]
              have e : labs (out ++ [mkLab n v]) = labs out ++ [.agg [txt n, txt v]] := by simp [labs, lab_mk]
              rw [e]; exact hg2
            · intro m hm
              rcases List.mem_append.1 hm with h | h
              · exact hsm m h
              · simp only [List.mem_singleton] at h
                subst h
                refine ⟨?_, ?_⟩ <;> simp [mkLab, ByteArray.size] <;> omega
    · have hfin : is = true → pl 9 (s.drop 1) [] = some out := fun hi => by
        rw [hpl hi]
        subst hi
        simp only [Bool.true_and, Bool.and_eq_false_iff, Bool.not_eq_false', beq_iff_eq, decide_eq_false_iff_not] at hc
        cases m with
        | zero => rfl
        | succ m =>
          rcases hc with hc | hc
          · rw [pl, if_pos hc]
          · omega
      have hsm' : Smalls out := fun m hm => by
        have := hsm m hm
        unfold Small
        omega
      have h202 := a202 H G P U (l := out) (by omega) hsm'
      have e0_0 := hfr 0 rfl; try (simp only [go_sem, Nat.reduceEqDiff, Nat.reduceAdd, Nat.reduceLeDiff] at e0_0)
      refine w_exit ?_
      try simp only [if_true]
      have hfz := hg.fz (labs_fz σ1 out)
      (repeat' first
    | refine w_seq ?_ | refine w_rg ?_ | refine wo_nil ?_ | refine g_skU ?_
    | ((first | apply s_plain | apply s_void | apply s_guard); · simp only [go_sem, Nat.reduceEqDiff, Nat.reduceAdd, Nat.reduceLeDiff, hp, hfz, f5, h202, e0_0, ba_data, ba_size, ba_toList, ba_extract, ba_append, List.toList_toArray]; (first | done | rfl))
    | ((first | apply g_T | apply g_F); · intro hb; simp only [go_sem, Nat.reduceEqDiff, Nat.reduceAdd, Nat.reduceLeDiff, hp, hfz, f5, h202, e0_0, ba_data, ba_size, ba_toList, ba_extract, ba_append, List.toList_toArray, hb]; (first | done | rfl))
    | ((first | apply g_gT | apply g_gF); · intro hb hc; simp only [go_sem, Nat.reduceEqDiff, Nat.reduceAdd, Nat.reduceLeDiff, hp, hfz, f5, h202, e0_0, ba_data, ba_size, ba_toList, ba_extract, ba_append, List.toList_toArray, hb, hc]; (first | done | rfl))
    | refine g_skT ?_ | refine g_skF ?_
    | ((first | apply g_goT | apply g_goF); · simp only [go_sem, Nat.reduceEqDiff, Nat.reduceAdd, Nat.reduceLeDiff, hp, hfz, f5, h202, e0_0, ba_data, ba_size, ba_toList, ba_extract, ba_append, List.toList_toArray]; (first | done | rfl))
    )
      refine w_condB (b := !is || !decide (rightL out = true) || !decide ((textS out).data.toList = s)) (by simp only [go_sem, Nat.reduceEqDiff, Nat.reduceAdd, Nat.reduceLeDiff]; congr 2; by_cases h : rightL out = true <;> cases is <;> simp [h, ByteArray.toList_eq] <;> (rw [Bool.eq_iff_iff]; simp)) (fun hd => ?_) (fun hd => ?_)
      · have hb : parseS s = ([], 6) := by
          unfold parseS
          rw [← his]
          cases is with
          | false => rfl
          | true =>
            rw [if_pos rfl, hfin rfl]
            simp only
            rw [if_neg]
            rintro ⟨h1, h2⟩
            simp [h1, h2] at hd
        (repeat' first
    | refine w_seq ?_ | refine w_rg ?_ | refine wo_nil ?_ | refine g_skU ?_
    | ((first | apply s_plain | apply s_void | apply s_guard); · simp only [go_sem, Nat.reduceEqDiff, Nat.reduceAdd, Nat.reduceLeDiff]; (first | done | rfl))
    | ((first | apply g_T | apply g_F); · intro hb; simp only [go_sem, Nat.reduceEqDiff, Nat.reduceAdd, Nat.reduceLeDiff, hb]; (first | done | rfl))
    | ((first | apply g_gT | apply g_gF); · intro hb hc; simp only [go_sem, Nat.reduceEqDiff, Nat.reduceAdd, Nat.reduceLeDiff, hb, hc]; (first | done | rfl))
    | refine g_skT ?_ | refine g_skF ?_
    | ((first | apply g_goT | apply g_goF); · simp only [go_sem, Nat.reduceEqDiff, Nat.reduceAdd, Nat.reduceLeDiff]; (first | done | rfl))
    | (refine w_condT ?_ ?_; · simp only [go_sem, Nat.reduceEqDiff, Nat.reduceAdd, Nat.reduceLeDiff]; (first | done | rfl))
    | (refine w_condF ?_ ?_; · simp only [go_sem, Nat.reduceEqDiff, Nat.reduceAdd, Nat.reduceLeDiff]; (first | done | rfl))
    | refine w_skip ?_ | refine w_exit ?_ | refine w_ret ?_
    )
        exact ⟨by first | exact .inr rfl | exact .inl rfl, by simp only [go_sem, Nat.reduceEqDiff, Nat.reduceAdd, Nat.reduceLeDiff, retOf, resOf, hb]; first | done | rfl⟩
      · simp only [Bool.or_eq_false_iff, Bool.not_eq_false', decide_eq_true_eq] at hd
        obtain ⟨⟨rfl, h1⟩, h2⟩ := hd
        have hb : parseS s = (out, 0) := by
          unfold parseS
          rw [← his, if_pos rfl, hfin rfl]
          simp only
          rw [if_pos ⟨h1, h2⟩]
        (repeat' first
    | refine w_seq ?_ | refine w_rg ?_ | refine wo_nil ?_ | refine g_skU ?_
    | ((first | apply s_plain | apply s_void | apply s_guard); · simp only [go_sem, Nat.reduceEqDiff, Nat.reduceAdd, Nat.reduceLeDiff, hp]; (first | done | rfl))
    | ((first | apply g_T | apply g_F); · intro hb; simp only [go_sem, Nat.reduceEqDiff, Nat.reduceAdd, Nat.reduceLeDiff, hp, hb]; (first | done | rfl))
    | ((first | apply g_gT | apply g_gF); · intro hb hc; simp only [go_sem, Nat.reduceEqDiff, Nat.reduceAdd, Nat.reduceLeDiff, hp, hb, hc]; (first | done | rfl))
    | refine g_skT ?_ | refine g_skF ?_
    | ((first | apply g_goT | apply g_goF); · simp only [go_sem, Nat.reduceEqDiff, Nat.reduceAdd, Nat.reduceLeDiff, hp]; (first | done | rfl))
    | (refine w_condT ?_ ?_; · simp only [go_sem, Nat.reduceEqDiff, Nat.reduceAdd, Nat.reduceLeDiff, hp]; (first | done | rfl))
    | (refine w_condF ?_ ?_; · simp only [go_sem, Nat.reduceEqDiff, Nat.reduceAdd, Nat.reduceLeDiff, hp]; (first | done | rfl))
    | refine w_skip ?_ | refine w_exit ?_ | refine w_ret ?_
    )
        exact ⟨by first | exact .inr rfl | exact .inl rfl, by simp only [go_sem, Nat.reduceEqDiff, Nat.reduceAdd, Nat.reduceLeDiff, retOf, resOf, hb, gat_fzd hg (labs_fzd σ1 8 out)]; first | done | rfl⟩
  · exact ⟨9, cutPre s [123], [], [123].isPrefixOf s, rfl, rfl, rfl, by simp only [go_sem, Nat.reduceEqDiff, Nat.reduceAdd, Nat.reduceLeDiff], by simp only [go_sem, Nat.reduceEqDiff, Nat.reduceAdd, Nat.reduceLeDiff], by simp only [go_sem, Nat.reduceEqDiff, Nat.reduceAdd, Nat.reduceLeDiff]; exact .em, cutPre_le _ _, fun m hm => by simp at hm, fun h => by simp only [cutPre, h, if_true]; rfl, fun _ => rfl⟩
end
end Go.Proofs.YtjijlmfhnkipmaaDoorPv
