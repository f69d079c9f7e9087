/-
The document's sets: a value, sorted rows, one laid over another.
-/
import Derived.Test.YtjijlmfhnkipmaaDoorPvSq
namespace Go.Proofs.YtjijlmfhnkipmaaDoorPv
open Go
set_option linter.unusedSimpArgs false
set_option linter.unusedVariables false
set_option maxHeartbeats 4000000
attribute [local go_sem ↓] e_mv e_pick e_bin e_eqs e_beq e_un e_cvi e_str e_s2b e_b2s e_box e_build e_bsl e_ld e_st e_nck e_mkf e_slcS e_slcL e_fa e_fld e_ia e_iaa e_ix e_ixa e_ext e_lenS e_lenL e_mnmx e_app e_msl e_clr e_call e_callv pa_t pa_c pa_f slcSP_str hiOf_some hiOf_none loOf_some loOf_none set_eq set_ne
attribute [local go_sem] pv pv1 simple frOf_0 frOf_1 frOf_2 frOf_3 frOf_4 frOf_5 ne_eq not_false_eq_true if_true Bool.false_eq_true if_false pbin punary Option.map_some Option.bind_some pick_and pick_or opt_true Bool.true_and Bool.and_self Bool.and_true Bool.true_or Bool.false_or Bool.not_true Bool.not_false callE pcall_eq List.map_cons List.map_nil List.append_nil List.nil_append List.cons_append mapM_cons' mapM_nil' dep_eq fz_sc fz_sl fz_em fz_fn fz_fp fz_agg fz_bx fz_ob Nat.lt_irrefl Nat.zero_lt_one Nat.lt_add_one flat clL cl Bool.or_true okc cells_agg cells_sc cells_sl cells_em cells_ob cells_fn cells_bx cells_fp List.length_cons List.length_nil Nat.zero_add and_self true_and and_true new_m new_c put_m put_c nil_m nil_c deref List.getElem?_cons_zero List.getElem?_cons_succ List.drop_zero List.drop_succ_cons List.take_succ_cons List.take_zero Nat.le_refl false_and and_false
set_option maxRecDepth 8000

/-- transhipment/transhipmentref03.Get -/
def d200 : Def := (.code 2 [.tmp 4] (.seq (.rg false [⟨.some 4, .none, .mv (.c (.string ⟨#[]⟩))⟩]) (.seq (.seq (.rg false [⟨.some 7, .none, .mv (.t 0)⟩, ⟨.some 8, .none, .lenL (.t 7)⟩, ⟨.some 9, .none, .mv (.c (.int .i64 0))⟩]) (.block 0 (.loop (.seq (.rg false [⟨.some 10, .none, .bin .lss (.t 9) (.t 8)⟩]) (.seq (.cond (.t 10) .skip (.exit 0)) (.seq (.block 1 (.seq (.rg false [⟨.some 11, .none, .ia 2 (.t 7) (.t 9)⟩, ⟨.some 12, .none, .ld (.some 2) (.t 11)⟩, ⟨.some 6, .none, .box (.c (.agg #[.string ⟨#[]⟩, .string ⟨#[]⟩]))⟩, ⟨.none, .none, .st 2 (.t 6) (.t 12)⟩]) (.seq (.rg false [⟨.some 13, .none, .fa 0 (.t 6)⟩, ⟨.some 14, .none, .ld .none (.t 13)⟩, ⟨.some 15, .none, .mv (.t 1)⟩, ⟨.some 16, .none, .bin .eql (.t 14) (.t 15)⟩]) (.cond (.t 16) (.seq (.rg false [⟨.some 17, .none, .fa 1 (.t 6)⟩, ⟨.some 18, .none, .ld .none (.t 17)⟩, ⟨.some 4, .none, .mv (.t 18)⟩]) .ret) .skip)))) (.rg false [⟨.some 19, .none, .bin .add (.t 9) (.c (.int .i64 1))⟩, ⟨.some 9, .none, .mv (.t 19)⟩]))))))) (.seq (.rg false [⟨.some 4, .none, .mv (.c (.string ⟨#[]⟩))⟩]) .ret))))
/-- transhipment/transhipmentref03.Sorted -/
def d201 : Def := (.code 1 [.tmp 2] (.seq (.rg false [⟨.some 2, .none, .mv (.c (.slice .none 0 0))⟩]) (.seq (.rg false [⟨.some 8, .none, .mv (.c (.slice .none 0 0))⟩, ⟨.some 3, .none, .mv (.t 8)⟩]) (.seq (.seq (.rg false [⟨.some 9, .none, .mv (.t 0)⟩, ⟨.some 10, .none, .lenL (.t 9)⟩, ⟨.some 11, .none, .mv (.c (.int .i64 0))⟩]) (.block 0 (.loop (.seq (.rg false [⟨.some 12, .none, .bin .lss (.t 11) (.t 10)⟩]) (.seq (.cond (.t 12) .skip (.exit 0)) (.seq (.block 1 (.seq (.rg false [⟨.some 13, .none, .ia 2 (.t 9) (.t 11)⟩, ⟨.some 14, .none, .ld (.some 2) (.t 13)⟩, ⟨.some 5, .none, .box (.c (.agg #[.string ⟨#[]⟩, .string ⟨#[]⟩]))⟩, ⟨.none, .none, .st 2 (.t 5) (.t 14)⟩]) (.seq (.rg false [⟨.some 15, .none, .mv (.t 3)⟩, ⟨.some 16, .none, .lenL (.t 15)⟩, ⟨.some 6, .none, .mv (.t 16)⟩]) (.seq (.block 2 (.loop (.seq (.seq (.rg true [⟨.some 17, .none, .mv (.t 6)⟩, ⟨.some 18, .none, .bin .gtr (.t 17) (.c (.int .i64 0))⟩, ⟨.some 19, .none, .mv (.t 18)⟩, ⟨.some 20, .some (19, true), .fa 0 (.t 5)⟩, ⟨.some 21, .some (19, true), .ld .none (.t 20)⟩, ⟨.some 22, .some (19, true), .mv (.t 3)⟩, ⟨.some 23, .some (19, true), .mv (.t 6)⟩, ⟨.some 24, .some (19, true), .bin .sub (.t 23) (.c (.int .i64 1))⟩, ⟨.some 25, .some (19, true), .ia 2 (.t 22) (.t 24)⟩, ⟨.some 26, .some (19, true), .fa 0 (.t 25)⟩, ⟨.some 27, .some (19, true), .ld .none (.t 26)⟩, ⟨.some 28, .some (19, true), .call 119 .strict [.t 21, .t 27]⟩, ⟨.some 29, .none, .pick (.t 19) (.t 28) (.c (.bool false))⟩]) (.cond (.t 29) .skip (.exit 2))) (.block 3 (.rg false [⟨.some 30, .none, .mv (.t 6)⟩, ⟨.some 31, .none, .bin .sub (.t 30) (.c (.int .i64 1))⟩, ⟨.some 6, .none, .mv (.t 31)⟩]))))) (.seq (.rg false [⟨.some 32, .none, .mv (.c (.slice .none 0 0))⟩, ⟨.some 7, .none, .mv (.t 32)⟩]) (.seq (.rg false [⟨.some 33, .none, .mv (.t 7)⟩, ⟨.some 34, .none, .mv (.t 3)⟩, ⟨.some 35, .none, .mv (.t 6)⟩, ⟨.some 36, .none, .slcL 2 (.t 34) .none (.some (.t 35))⟩, ⟨.some 37, .none, .app 2 32 false (.t 33) (.t 36)⟩, ⟨.some 7, .none, .mv (.t 37)⟩]) (.seq (.rg false [⟨.some 38, .none, .mv (.t 7)⟩, ⟨.some 39, .none, .ld (.some 2) (.t 5)⟩, ⟨.some 40, .none, .bsl 2 (.agg #[.string ⟨#[]⟩, .string ⟨#[]⟩]) 1 [(0, .t 39)]⟩, ⟨.some 41, .none, .app 2 32 false (.t 38) (.t 40)⟩, ⟨.some 7, .none, .mv (.t 41)⟩]) (.seq (.rg false [⟨.some 42, .none, .mv (.t 7)⟩, ⟨.some 43, .none, .mv (.t 3)⟩, ⟨.some 44, .none, .mv (.t 6)⟩, ⟨.some 45, .none, .slcL 2 (.t 43) (.some (.t 44)) .none⟩, ⟨.some 46, .none, .app 2 32 false (.t 42) (.t 45)⟩, ⟨.some 7, .none, .mv (.t 46)⟩]) (.rg false [⟨.some 47, .none, .mv (.t 7)⟩, ⟨.some 3, .none, .mv (.t 47)⟩]))))))))) (.rg false [⟨.some 48, .none, .bin .add (.t 11) (.c (.int .i64 1))⟩, ⟨.some 11, .none, .mv (.t 48)⟩]))))))) (.seq (.rg false [⟨.some 49, .none, .mv (.t 3)⟩, ⟨.some 2, .none, .mv (.t 49)⟩]) .ret)))))
/-- transhipment/transhipmentref03.With -/
def d191 : Def := (.code 2 [.tmp 4] (.seq (.rg false [⟨.some 4, .none, .mv (.c (.slice .none 0 0))⟩]) (.seq (.rg false [⟨.some 8, .none, .mv (.c (.slice .none 0 0))⟩, ⟨.some 5, .none, .mv (.t 8)⟩]) (.seq (.rg false [⟨.some 9, .none, .mv (.t 5)⟩, ⟨.some 10, .none, .mv (.t 1)⟩, ⟨.some 11, .none, .app 2 32 false (.t 9) (.t 10)⟩, ⟨.some 5, .none, .mv (.t 11)⟩]) (.seq (.seq (.rg false [⟨.some 12, .none, .mv (.t 0)⟩, ⟨.some 13, .none, .lenL (.t 12)⟩, ⟨.some 14, .none, .mv (.c (.int .i64 0))⟩]) (.block 0 (.loop (.seq (.rg false [⟨.some 15, .none, .bin .lss (.t 14) (.t 13)⟩]) (.seq (.cond (.t 15) .skip (.exit 0)) (.seq (.block 1 (.seq (.rg false [⟨.some 16, .none, .ia 2 (.t 12) (.t 14)⟩, ⟨.some 17, .none, .ld (.some 2) (.t 16)⟩, ⟨.some 7, .none, .box (.c (.agg #[.string ⟨#[]⟩, .string ⟨#[]⟩]))⟩, ⟨.none, .none, .st 2 (.t 7) (.t 17)⟩]) (.seq (.rg false [⟨.some 18, .none, .mv (.t 1)⟩, ⟨.some 19, .none, .fa 0 (.t 7)⟩, ⟨.some 20, .none, .ld .none (.t 19)⟩, ⟨.some 21, .none, .call 200 .pure [.t 18, .t 20]⟩, ⟨.some 22, .none, .bin .eql (.t 21) (.c (.string ⟨#[]⟩))⟩]) (.cond (.t 22) (.rg false [⟨.some 23, .none, .mv (.t 5)⟩, ⟨.some 24, .none, .ld (.some 2) (.t 7)⟩, ⟨.some 25, .none, .bsl 2 (.agg #[.string ⟨#[]⟩, .string ⟨#[]⟩]) 1 [(0, .t 24)]⟩, ⟨.some 26, .none, .app 2 32 false (.t 23) (.t 25)⟩, ⟨.some 5, .none, .mv (.t 26)⟩]) .skip)))) (.rg false [⟨.some 27, .none, .bin .add (.t 14) (.c (.int .i64 1))⟩, ⟨.some 14, .none, .mv (.t 27)⟩]))))))) (.seq (.rg false [⟨.some 28, .none, .mv (.t 5)⟩, ⟨.some 29, .none, .call 201 .pure [.t 28]⟩, ⟨.some 4, .none, .mv (.t 29)⟩]) .ret))))))

def lr : List (Nat × Def) := [(200, d200), (201, d201), (191, d191)]

section
variable {env : Nat → Option Def} {fr : Fr} {σ σ' : St} {K : Fr → St → Prop} {Q : X → Fr → St → Prop}

/-- What stays, but for what lies at some places. -/
structure Keeps (σ σ' : St) (os : List Nat) : Prop where
  c : ∀ o, σ.c o ≤ σ'.c o
  m : ∀ o g, o ∉ os → g < σ.c o → σ'.m o g = σ.m o g

theorem Gat.keep {os os2 : List Nat} {es : Nat} {w : Bool} {p : PV} {xs : List PV} (h : Gat σ os es w p xs) (hk : Keeps σ σ' os2) (hd : ∀ o ∈ os, o ∉ os2) : Gat σ' os es w p xs := by
  rcases h with h | ⟨o, g, wr, h0, h1, h2, h3, h4⟩
  · exact .inl h
  · exact .inr ⟨o, g, wr, h0, h1, by rw [hk.m o g (hd o h0) h3]; exact h2, Nat.lt_of_lt_of_le h3 (hk.c o), h4⟩

theorem gat_appL {E : Ev} {d es by_ : Nat} {os : List Nat} {w kw : Bool} {s' x : PA} {xs ys : List PV} (hg : Gat σ os es w (pa fr s') xs) (hsrc : srcOf σ es (pa fr x) = some ys) (hall : (ys.all fun y => okc y && (cellsOf y).length == es) = true) (hb : (xs.length + ys.length) * by_ ≤ 70368744177664) :
    ∃ p σ', evO E d fr σ (.app es by_ kw s' x) = some (p, σ') ∧ Gat σ' [d] es (w && kw) p (xs ++ ys) ∧ Keeps σ σ' os := by
  rcases hg with ⟨h1, rfl⟩ | ⟨o, g, wr, h0, h1, h2, h3, h4, h5⟩
  · cases ys with
    | nil =>
      refine ⟨.em, σ, ?_, .em, ⟨fun _ => Nat.le_refl _, fun _ _ _ _ => rfl⟩⟩
      simp only [evO, hsrc, Option.bind_some, hall, if_true, h1]
      simp
    | cons y r =>
      refine ⟨.ob d (σ.c d) es 0 (y :: r).length, σ.new d ⟨es, y :: r, true, true⟩, ?_, .inr ⟨d, σ.c d, true, by simp, by simp, by simp [new_m], by simp [new_c], by simp, fun _ => rfl⟩, ⟨fun o => ?_, fun o g _ hlt => ?_⟩⟩
      · simp only [evO, hsrc, Option.bind_some, hall, if_true, h1]
        rw [if_pos (by simpa using hb)]
        rfl
      · simp only [new_c]; split
        · rename_i h; subst h; omega
        · exact Nat.le_refl _
      · simp only [new_m]; rw [if_neg (fun h => by obtain ⟨rfl, rfl⟩ := h; omega)]
  · refine ⟨.ob d (σ.c d) es 0 (xs.length + ys.length), (σ.put o g (if kw then none else some ⟨es, xs, false, false⟩)).new d ⟨es, xs ++ ys, true, wr && kw⟩, ?_, .inr ⟨d, σ.c d, wr && kw, by simp, by simp, by simp [new_m, put_c], by simp [new_c, put_c], by simp [h4], fun h => ?_⟩, ⟨fun o' => ?_, fun o' g' ho hlt => ?_⟩⟩
    · simp only [evO, hsrc, Option.bind_some, hall, if_true, h1, h2]
      simp
      simpa using hb
    · simp only [Bool.and_eq_true] at h ⊢
      exact ⟨h5 h.1, h.2⟩
    · simp only [new_c, put_c]; split
      · rename_i h; subst h; omega
      · exact Nat.le_refl _
    · simp only [new_m, put_m, put_c]
      have n1 : ¬ (o' = d ∧ g' = σ.c d) := fun h => by obtain ⟨rfl, rfl⟩ := h; omega
      have n2 : ¬ (o' = o ∧ g' = g) := fun h => ho (h.1 ▸ h0)
      simp only [n1, n2, if_false]

theorem s_gatL {d t es by_ : Nat} {os : List Nat} {w kw : Bool} {x : PA} {xs ys : List PV} {ops : List POp} (hg : Gat σ os es w (fr t) xs) (hsrc : srcOf σ es (pa fr x) = some ys) (hall : (ys.all fun y => okc y && (cellsOf y).length == es) = true) (hb : (xs.length + ys.length) * by_ ≤ 70368744177664)
    (h2 : ∀ p σ', Gat σ' [d] es (w && kw) p (xs ++ ys) → Keeps σ σ' os → Wos env ops K (fr.set d p) σ') : Wos env (⟨some d, none, .app es by_ kw (.t t) x⟩ :: ops) K fr σ := by
  obtain ⟨p, σ', h3, h4, h5⟩ := gat_appL (E := EV env) (d := d) (fr := fr) (s' := .t t) (x := x) (kw := kw) hg hsrc hall hb
  exact s_plain h3 (h2 p σ' h4 h5)

theorem gat_slc {os : List Nat} {es h l : Nat} {w : Bool} {p : PV} {xs : List PV} {lo hi : Option PA} (hg : Gat σ os es w p xs) (hh : hiOf xs.length fr hi = some h) (hl : loOf h fr lo = some l) (hle : h ≤ xs.length) (hll : l ≤ h) :
    ∃ q, slcLP es fr p lo hi = some q ∧ elemsOf σ q = some ((xs.take h).drop l) := by
  rcases hg with ⟨rfl, rfl⟩ | ⟨o, g, wr, h0, rfl, h2, h3, h4, h5⟩
  · refine ⟨.em, ?_, by simp [elemsOf]⟩
    simp only [slcLP]
    rw [show hiOf 0 fr hi = some h from hh]
    simp [hl]
  · refine ⟨.ob o g es (0 + l) (h - l), ?_, ?_⟩
    · simp only [slcLP, if_true, hh, Option.bind_some, hl]
    · simp only [elemsOf, h2]
      rw [if_pos ⟨trivial, by omega⟩]
      rw [List.drop_take]
      simp

theorem gat_len {os : List Nat} {es : Nat} {w : Bool} {p : PV} {xs : List PV} {E : Ev} {d t : Nat} (hg : Gat σ os es w p xs) (ht : fr t = p) : evO E d fr σ (.lenL (.t t)) = some (.sc (.int .i64 xs.length), σ) := by
  rcases hg with ⟨rfl, rfl⟩ | ⟨o, g, wr, h0, rfl, h2, h3, h4, h5⟩
  · simp [evO, pa, ht]
  · simp [evO, pa, ht]

theorem labs_ok (l : List Lab) : ((labs l).all fun y => okc y && (cellsOf y).length == 2) = true := by
  rw [List.all_eq_true]
  intro x hx
  simp only [labs, List.mem_map] at hx
  obtain ⟨m, _, rfl⟩ := hx
  rfl

theorem a200 (R : Has lr env) {l : List Lab} {n : ByteArray} (hn : l.length ≤ 9223372036854775807) : AV env 200 [.sl (labs l), .sc (.string n)] = some (.sc (.string (getB l n))) := by
  refine AV_wp (R (200, d200) (by simp [lr])) rfl ?_
  have hll := labs_len l
  (repeat' first
    | refine w_seq ?_
    | refine w_rg ?_
    | refine wo_nil ?_
    | refine s_plain (by simp only [go_sem, Nat.reduceEqDiff, Nat.reduceAdd, Nat.reduceLeDiff, hll]; first | done | rfl) ?_
    | refine s_void (by simp only [go_sem, Nat.reduceEqDiff, Nat.reduceAdd, Nat.reduceLeDiff, hll]; first | done | rfl) ?_
    | refine s_guard (by simp only [go_sem, Nat.reduceEqDiff, Nat.reduceAdd, Nat.reduceLeDiff, hll]; first | done | rfl) ?_
    | refine g_skU ?_
    | refine g_T (by intro hb; simp only [go_sem, Nat.reduceEqDiff, Nat.reduceAdd, Nat.reduceLeDiff, hll, hb]; first | done | rfl) ?_
    | refine g_F (by intro hb; simp only [go_sem, Nat.reduceEqDiff, Nat.reduceAdd, Nat.reduceLeDiff, hll, hb]; first | done | rfl) ?_
    | refine g_gT (by intro hb hc; simp only [go_sem, Nat.reduceEqDiff, Nat.reduceAdd, Nat.reduceLeDiff, hll, hb, hc]; first | done | rfl) ?_
    | refine g_gF (by intro hb hc; simp only [go_sem, Nat.reduceEqDiff, Nat.reduceAdd, Nat.reduceLeDiff, hll, hb, hc]; first | done | rfl) ?_
    | refine g_skT ?_
    | refine g_skF ?_
    | refine g_goT (by simp only [go_sem, Nat.reduceEqDiff, Nat.reduceAdd, Nat.reduceLeDiff, hll]; first | done | rfl) ?_
    | refine g_goF (by simp only [go_sem, Nat.reduceEqDiff, Nat.reduceAdd, Nat.reduceLeDiff, hll]; first | done | rfl) ?_
    )
  refine w_block (w_range l.length hn (fun i fr σ => fr 1 = .sc (.string n) ∧ fr 7 = .sl (labs l) ∧ ∀ j, j < i → isN l n j = false) (by decide) ?_ ?_ ?_ _ _ ?_ ?_ ?_)
  · rintro i fr σ v ⟨h0, h1, h2⟩
    refine ⟨⟨?_, ?_, h2⟩, ⟨?_, ?_, h2⟩, ⟨?_, ?_, h2⟩⟩ <;> simp only [go_sem, Nat.reduceEqDiff, Nat.reduceAdd, Nat.reduceLeDiff, h0, h1]
  · rintro i fr σ hi ⟨f1, f7, h3⟩ hti htn
    have hx := List.getElem?_eq_getElem hi
    have hy := labs_at hx
    have hni : nth l i = l[i] := by unfold nth; rw [hx]; rfl
    have e1 : (0 : Int) ≤ (i : Int) ∧ (i : Int) < (l.length : Int) := by omega
    refine w_block ?_
    simp only [lab] at hy
    (repeat' first
    | refine w_seq ?_
    | refine w_rg ?_
    | refine wo_nil ?_
    | refine s_plain (by simp only [go_sem, Nat.reduceEqDiff, Nat.reduceAdd, Nat.reduceLeDiff, f1, f7, hti, e1, hll, Int.toNat_natCast, hy, List.modify_zero_cons]; first | done | rfl) ?_
    | refine s_void (by simp only [go_sem, Nat.reduceEqDiff, Nat.reduceAdd, Nat.reduceLeDiff, f1, f7, hti, e1, hll, Int.toNat_natCast, hy, List.modify_zero_cons]; first | done | rfl) ?_
    | refine s_guard (by simp only [go_sem, Nat.reduceEqDiff, Nat.reduceAdd, Nat.reduceLeDiff, f1, f7, hti, e1, hll, Int.toNat_natCast, hy, List.modify_zero_cons]; first | done | rfl) ?_
    | refine g_skU ?_
    | refine g_T (by intro hb; simp only [go_sem, Nat.reduceEqDiff, Nat.reduceAdd, Nat.reduceLeDiff, f1, f7, hti, e1, hll, Int.toNat_natCast, hy, List.modify_zero_cons, hb]; first | done | rfl) ?_
    | refine g_F (by intro hb; simp only [go_sem, Nat.reduceEqDiff, Nat.reduceAdd, Nat.reduceLeDiff, f1, f7, hti, e1, hll, Int.toNat_natCast, hy, List.modify_zero_cons, hb]; first | done | rfl) ?_
    | refine g_gT (by intro hb hc; simp only [go_sem, Nat.reduceEqDiff, Nat.reduceAdd, Nat.reduceLeDiff, f1, f7, hti, e1, hll, Int.toNat_natCast, hy, List.modify_zero_cons, hb, hc]; first | done | rfl) ?_
    | refine g_gF (by intro hb hc; simp only [go_sem, Nat.reduceEqDiff, Nat.reduceAdd, Nat.reduceLeDiff, f1, f7, hti, e1, hll, Int.toNat_natCast, hy, List.modify_zero_cons, hb, hc]; first | done | rfl) ?_
    | refine g_skT ?_
    | refine g_skF ?_
    | refine g_goT (by simp only [go_sem, Nat.reduceEqDiff, Nat.reduceAdd, Nat.reduceLeDiff, f1, f7, hti, e1, hll, Int.toNat_natCast, hy, List.modify_zero_cons]; first | done | rfl) ?_
    | refine g_goF (by simp only [go_sem, Nat.reduceEqDiff, Nat.reduceAdd, Nat.reduceLeDiff, f1, f7, hti, e1, hll, Int.toNat_natCast, hy, List.modify_zero_cons]; first | done | rfl) ?_
    )
    have hbad : isN l n i = (l[i].1.toList == n.toList) := by unfold isN; rw [hni]
    cases hpi : isN l n i with
    | true =>
      have hq := hpi
      rw [hbad] at hpi
      refine w_condT (by simp only [go_sem, Nat.reduceEqDiff, Nat.reduceAdd, Nat.reduceLeDiff, hpi]) ?_
      (repeat' first
    | refine w_seq ?_
    | refine w_rg ?_
    | refine wo_nil ?_
    | refine s_plain (by simp only [go_sem, Nat.reduceEqDiff, Nat.reduceAdd, Nat.reduceLeDiff]; first | done | rfl) ?_
    | refine s_void (by simp only [go_sem, Nat.reduceEqDiff, Nat.reduceAdd, Nat.reduceLeDiff]; first | done | rfl) ?_
    | refine s_guard (by simp only [go_sem, Nat.reduceEqDiff, Nat.reduceAdd, Nat.reduceLeDiff]; first | done | rfl) ?_
    | refine g_skU ?_
    | refine g_T (by intro hb; simp only [go_sem, Nat.reduceEqDiff, Nat.reduceAdd, Nat.reduceLeDiff, hb]; first | done | rfl) ?_
    | refine g_F (by intro hb; simp only [go_sem, Nat.reduceEqDiff, Nat.reduceAdd, Nat.reduceLeDiff, hb]; first | done | rfl) ?_
    | refine g_gT (by intro hb hc; simp only [go_sem, Nat.reduceEqDiff, Nat.reduceAdd, Nat.reduceLeDiff, hb, hc]; first | done | rfl) ?_
    | refine g_gF (by intro hb hc; simp only [go_sem, Nat.reduceEqDiff, Nat.reduceAdd, Nat.reduceLeDiff, hb, hc]; first | done | rfl) ?_
    | refine g_skT ?_
    | refine g_skF ?_
    | refine g_goT (by simp only [go_sem, Nat.reduceEqDiff, Nat.reduceAdd, Nat.reduceLeDiff]; first | done | rfl) ?_
    | refine g_goF (by simp only [go_sem, Nat.reduceEqDiff, Nat.reduceAdd, Nat.reduceLeDiff]; first | done | rfl) ?_
    | refine w_condT (by simp only [go_sem, Nat.reduceEqDiff, Nat.reduceAdd, Nat.reduceLeDiff]; first | done | rfl) ?_
    | refine w_condF (by simp only [go_sem, Nat.reduceEqDiff, Nat.reduceAdd, Nat.reduceLeDiff]; first | done | rfl) ?_
    | refine w_skip ?_
    | refine w_exit ?_
    | refine w_ret ?_
    )
      have hf : getB l n = l[i].2 := by
        unfold getB
        rw [found_hit hi h3 hq, if_neg (by omega)]
        simp only [Int.toNat_natCast, hni]
      exact ⟨.inr rfl, by simp only [go_sem, Nat.reduceEqDiff, Nat.reduceAdd, Nat.reduceLeDiff, retOf, resOf, hf]⟩
    | false =>
      have hq := hpi
      rw [hbad] at hpi
      refine w_condF (by simp only [go_sem, Nat.reduceEqDiff, Nat.reduceAdd, Nat.reduceLeDiff, hpi]) ?_
      (repeat' first
    | refine w_seq ?_
    | refine w_rg ?_
    | refine wo_nil ?_
    | refine s_plain (by simp only [go_sem, Nat.reduceEqDiff, Nat.reduceAdd, Nat.reduceLeDiff]; first | done | rfl) ?_
    | refine s_void (by simp only [go_sem, Nat.reduceEqDiff, Nat.reduceAdd, Nat.reduceLeDiff]; first | done | rfl) ?_
    | refine s_guard (by simp only [go_sem, Nat.reduceEqDiff, Nat.reduceAdd, Nat.reduceLeDiff]; first | done | rfl) ?_
    | refine g_skU ?_
    | refine g_T (by intro hb; simp only [go_sem, Nat.reduceEqDiff, Nat.reduceAdd, Nat.reduceLeDiff, hb]; first | done | rfl) ?_
    | refine g_F (by intro hb; simp only [go_sem, Nat.reduceEqDiff, Nat.reduceAdd, Nat.reduceLeDiff, hb]; first | done | rfl) ?_
    | refine g_gT (by intro hb hc; simp only [go_sem, Nat.reduceEqDiff, Nat.reduceAdd, Nat.reduceLeDiff, hb, hc]; first | done | rfl) ?_
    | refine g_gF (by intro hb hc; simp only [go_sem, Nat.reduceEqDiff, Nat.reduceAdd, Nat.reduceLeDiff, hb, hc]; first | done | rfl) ?_
    | refine g_skT ?_
    | refine g_skF ?_
    | refine g_goT (by simp only [go_sem, Nat.reduceEqDiff, Nat.reduceAdd, Nat.reduceLeDiff]; first | done | rfl) ?_
    | refine g_goF (by simp only [go_sem, Nat.reduceEqDiff, Nat.reduceAdd, Nat.reduceLeDiff]; first | done | rfl) ?_
    | refine w_condT (by simp only [go_sem, Nat.reduceEqDiff, Nat.reduceAdd, Nat.reduceLeDiff]; first | done | rfl) ?_
    | refine w_condF (by simp only [go_sem, Nat.reduceEqDiff, Nat.reduceAdd, Nat.reduceLeDiff]; first | done | rfl) ?_
    | refine w_skip ?_
    | refine w_exit ?_
    | refine w_ret ?_
    )
      refine ⟨⟨?_, ?_, fun j hj => ?_⟩, ?_, ?_⟩
      · simp only [go_sem, Nat.reduceEqDiff, Nat.reduceAdd, Nat.reduceLeDiff, f1]
      · simp only [go_sem, Nat.reduceEqDiff, Nat.reduceAdd, Nat.reduceLeDiff, f7]
      · by_cases hji : j = i
        · rw [hji]; exact hq
        · exact h3 j (by omega)
      · simp only [go_sem, Nat.reduceEqDiff, Nat.reduceAdd, Nat.reduceLeDiff, hti]
      · simp only [go_sem, Nat.reduceEqDiff, Nat.reduceAdd, Nat.reduceLeDiff, htn]
  · rintro fr σ ⟨f1, f7, h3⟩
    try simp only [if_true]
    (repeat' first
    | refine w_seq ?_
    | refine w_rg ?_
    | refine wo_nil ?_
    | refine s_plain (by simp only [go_sem, Nat.reduceEqDiff, Nat.reduceAdd, Nat.reduceLeDiff]; first | done | rfl) ?_
    | refine s_void (by simp only [go_sem, Nat.reduceEqDiff, Nat.reduceAdd, Nat.reduceLeDiff]; first | done | rfl) ?_
    | refine s_guard (by simp only [go_sem, Nat.reduceEqDiff, Nat.reduceAdd, Nat.reduceLeDiff]; first | done | rfl) ?_
    | refine g_skU ?_
    | refine g_T (by intro hb; simp only [go_sem, Nat.reduceEqDiff, Nat.reduceAdd, Nat.reduceLeDiff, hb]; first | done | rfl) ?_
    | refine g_F (by intro hb; simp only [go_sem, Nat.reduceEqDiff, Nat.reduceAdd, Nat.reduceLeDiff, hb]; first | done | rfl) ?_
    | refine g_gT (by intro hb hc; simp only [go_sem, Nat.reduceEqDiff, Nat.reduceAdd, Nat.reduceLeDiff, hb, hc]; first | done | rfl) ?_
    | refine g_gF (by intro hb hc; simp only [go_sem, Nat.reduceEqDiff, Nat.reduceAdd, Nat.reduceLeDiff, hb, hc]; first | done | rfl) ?_
    | refine g_skT ?_
    | refine g_skF ?_
    | refine g_goT (by simp only [go_sem, Nat.reduceEqDiff, Nat.reduceAdd, Nat.reduceLeDiff]; first | done | rfl) ?_
    | refine g_goF (by simp only [go_sem, Nat.reduceEqDiff, Nat.reduceAdd, Nat.reduceLeDiff]; first | done | rfl) ?_
    | refine w_condT (by simp only [go_sem, Nat.reduceEqDiff, Nat.reduceAdd, Nat.reduceLeDiff]; first | done | rfl) ?_
    | refine w_condF (by simp only [go_sem, Nat.reduceEqDiff, Nat.reduceAdd, Nat.reduceLeDiff]; first | done | rfl) ?_
    | refine w_skip ?_
    | refine w_exit ?_
    | refine w_ret ?_
    )
    have hf : getB l n = ⟨#[]⟩ := by unfold getB; rw [found_none h3]; rfl
    exact ⟨.inr rfl, by simp only [go_sem, Nat.reduceEqDiff, Nat.reduceAdd, Nat.reduceLeDiff, retOf, resOf, hf]⟩
  · refine ⟨?_, ?_, fun j hj => by omega⟩ <;> simp only [go_sem, Nat.reduceEqDiff, Nat.reduceAdd, Nat.reduceLeDiff]
  · simp only [go_sem, Nat.reduceEqDiff, Nat.reduceAdd, Nat.reduceLeDiff]
  · simp only [go_sem, Nat.reduceEqDiff, Nat.reduceAdd, Nat.reduceLeDiff, hll]

theorem s_slc {d t es h l : Nat} {os : List Nat} {w : Bool} {xs : List PV} {lo hi : Option PA} {ops : List POp} (hg : Gat σ os es w (fr t) xs) (hh : hiOf xs.length fr hi = some h) (hl : loOf h fr lo = some l) (hle : h ≤ xs.length) (hll : l ≤ h)
    (h2 : ∀ q, elemsOf σ q = some ((xs.take h).drop l) → Wos env ops K (fr.set d q) σ) : Wos env (⟨some d, none, .slcL es (.t t) lo hi⟩ :: ops) K fr σ := by
  obtain ⟨q, h3, h4⟩ := gat_slc hg hh hl hle hll
  exact s_plain (v := q) (σ' := σ) (by simp only [evO, pa, h3, Option.map_some]) (h2 q h4)

theorem bound_nat {n i : Nat} {k : IntKind} (h : i ≤ n) : bound n (.sc (.int k (i : Int))) = some i := by
  simp only [bound]
  rw [if_pos (by omega)]
  rfl

theorem src_elems {es : Nat} {q : PV} {ys : List PV} (h : elemsOf σ q = some ys) : srcOf σ es q = some ys := by
  cases q with
  | sc v => simp [elemsOf] at h
  | _ => exact h

theorem labs_okT (l : List Lab) (k : Nat) : (((labs l).take k).all fun y => okc y && (cellsOf y).length == 2) = true := by
  have : (labs l).take k = labs (l.take k) := by simp [labs]
  rw [this]; exact labs_ok _
theorem labs_okD (l : List Lab) (k : Nat) : (((labs l).drop k).all fun y => okc y && (cellsOf y).length == 2) = true := by
  have : (labs l).drop k = labs (l.drop k) := by simp [labs]
  rw [this]; exact labs_ok _

/-- What stands while the place for m is sought. -/
structure Seek (l : List Lab) (i : Nat) (a : List Lab) (m : Lab) (pb : PV) (k : Nat) (fr : Fr) (σ : St) : Prop where
  le : k ≤ a.length
  f9 : fr 9 = .sl (labs l)
  f11 : fr 11 = .sc (.int .i64 i)
  f10 : fr 10 = .sc (.int .i64 l.length)
  f5 : fr 5 = pb
  pb : ∃ g, pb = .bx 5 g 2 0 0 ∧ σ.m 5 g = some ⟨2, [lab m], true, true⟩ ∧ g < σ.c 5
  g3 : Gat σ [46] 2 false (fr 3) (labs a)
  f6 : fr 6 = .sc (.int .i64 k)
  ins : insAt m a a.length = insAt m a k

theorem a201 (L : Has ll0 env) (R : Has lr env) {l : List Lab} (hn : l.length ≤ 1000000) (hl : Smalls l) : AV env 201 [.sl (labs l)] = some (.sl (labs (sortedL l))) := by
  refine AV_wp (R (201, d201) (by simp [lr])) rfl ?_
  have hll := labs_len l
  (repeat' first
    | refine w_seq ?_
    | refine w_rg ?_
    | refine wo_nil ?_
    | refine s_plain (by simp only [go_sem, Nat.reduceEqDiff, Nat.reduceAdd, Nat.reduceLeDiff, hll]; first | done | rfl) ?_
    | refine s_void (by simp only [go_sem, Nat.reduceEqDiff, Nat.reduceAdd, Nat.reduceLeDiff, hll]; first | done | rfl) ?_
    | refine s_guard (by simp only [go_sem, Nat.reduceEqDiff, Nat.reduceAdd, Nat.reduceLeDiff, hll]; first | done | rfl) ?_
    | refine g_skU ?_
    | refine g_T (by intro hb; simp only [go_sem, Nat.reduceEqDiff, Nat.reduceAdd, Nat.reduceLeDiff, hll, hb]; first | done | rfl) ?_
    | refine g_F (by intro hb; simp only [go_sem, Nat.reduceEqDiff, Nat.reduceAdd, Nat.reduceLeDiff, hll, hb]; first | done | rfl) ?_
    | refine g_gT (by intro hb hc; simp only [go_sem, Nat.reduceEqDiff, Nat.reduceAdd, Nat.reduceLeDiff, hll, hb, hc]; first | done | rfl) ?_
    | refine g_gF (by intro hb hc; simp only [go_sem, Nat.reduceEqDiff, Nat.reduceAdd, Nat.reduceLeDiff, hll, hb, hc]; first | done | rfl) ?_
    | refine g_skT ?_
    | refine g_skF ?_
    | refine g_goT (by simp only [go_sem, Nat.reduceEqDiff, Nat.reduceAdd, Nat.reduceLeDiff, hll]; first | done | rfl) ?_
    | refine g_goF (by simp only [go_sem, Nat.reduceEqDiff, Nat.reduceAdd, Nat.reduceLeDiff, hll]; first | done | rfl) ?_
    )
  refine w_block (w_range l.length (by omega) (fun i fr σ => fr 9 = .sl (labs l) ∧ Gat σ [46] 2 false (fr 3) (labs (sortedL (l.take i)))) (by decide) ?_ ?_ ?_ _ _ ?_ ?_ ?_)
  · rintro i fr σ v ⟨h0, h1⟩
    refine ⟨⟨?_, ?_⟩, ⟨?_, ?_⟩, ⟨?_, ?_⟩⟩ <;> simp only [go_sem, Nat.reduceEqDiff, Nat.reduceAdd, Nat.reduceLeDiff, h0, h1]
  · rintro i fr σ hi ⟨f9, hg⟩ hti htn
    have hy := labs_at (List.getElem?_eq_getElem hi)
    have e1 : (0 : Int) ≤ (i : Int) ∧ (i : Int) < (l.length : Int) := by omega
    have hal : (sortedL (l.take i)).length = i := by rw [sortedL_len, List.length_take]; omega
    refine w_block ?_
    simp only [lab] at hy
    (repeat' first
    | refine w_seq ?_
    | refine w_rg ?_
    | refine wo_nil ?_
    | refine s_plain (by simp only [go_sem, Nat.reduceEqDiff, Nat.reduceAdd, Nat.reduceLeDiff, f9, hti, e1, hll, Int.toNat_natCast, hy, List.modify_zero_cons]; first | done | rfl) ?_
    | refine s_void (by simp only [go_sem, Nat.reduceEqDiff, Nat.reduceAdd, Nat.reduceLeDiff, f9, hti, e1, hll, Int.toNat_natCast, hy, List.modify_zero_cons]; first | done | rfl) ?_
    | refine s_guard (by simp only [go_sem, Nat.reduceEqDiff, Nat.reduceAdd, Nat.reduceLeDiff, f9, hti, e1, hll, Int.toNat_natCast, hy, List.modify_zero_cons]; first | done | rfl) ?_
    | refine g_skU ?_
    | refine g_T (by intro hb; simp only [go_sem, Nat.reduceEqDiff, Nat.reduceAdd, Nat.reduceLeDiff, f9, hti, e1, hll, Int.toNat_natCast, hy, List.modify_zero_cons, hb]; first | done | rfl) ?_
    | refine g_F (by intro hb; simp only [go_sem, Nat.reduceEqDiff, Nat.reduceAdd, Nat.reduceLeDiff, f9, hti, e1, hll, Int.toNat_natCast, hy, List.modify_zero_cons, hb]; first | done | rfl) ?_
    | refine g_gT (by intro hb hc; simp only [go_sem, Nat.reduceEqDiff, Nat.reduceAdd, Nat.reduceLeDiff, f9, hti, e1, hll, Int.toNat_natCast, hy, List.modify_zero_cons, hb, hc]; first | done | rfl) ?_
    | refine g_gF (by intro hb hc; simp only [go_sem, Nat.reduceEqDiff, Nat.reduceAdd, Nat.reduceLeDiff, f9, hti, e1, hll, Int.toNat_natCast, hy, List.modify_zero_cons, hb, hc]; first | done | rfl) ?_
    | refine g_skT ?_
    | refine g_skF ?_
    | refine g_goT (by simp only [go_sem, Nat.reduceEqDiff, Nat.reduceAdd, Nat.reduceLeDiff, f9, hti, e1, hll, Int.toNat_natCast, hy, List.modify_zero_cons]; first | done | rfl) ?_
    | refine g_goF (by simp only [go_sem, Nat.reduceEqDiff, Nat.reduceAdd, Nat.reduceLeDiff, f9, hti, e1, hll, Int.toNat_natCast, hy, List.modify_zero_cons]; first | done | rfl) ?_
    )
    have hg1 : Gat ((σ.new 5 ⟨2, [.agg [.sc (.string ⟨#[]⟩), .sc (.string ⟨#[]⟩)]], true, true⟩).put 5 (σ.c 5) (some ⟨2, [.agg [.sc (.string l[i].1), .sc (.string l[i].2)]], true, true⟩)) [46] 2 false (fr 3) (labs (sortedL (l.take i))) := (hg.new _).put (d := 5) (by decide) _
    refine s_plain (gat_len hg1 (by simp only [go_sem, Nat.reduceEqDiff, Nat.reduceAdd, Nat.reduceLeDiff])) ?_
    (repeat' first
    | refine w_seq ?_
    | refine w_rg ?_
    | refine wo_nil ?_
    | refine s_plain (by simp only [go_sem, Nat.reduceEqDiff, Nat.reduceAdd, Nat.reduceLeDiff]; first | done | rfl) ?_
    | refine s_void (by simp only [go_sem, Nat.reduceEqDiff, Nat.reduceAdd, Nat.reduceLeDiff]; first | done | rfl) ?_
    | refine s_guard (by simp only [go_sem, Nat.reduceEqDiff, Nat.reduceAdd, Nat.reduceLeDiff]; first | done | rfl) ?_
    | refine g_skU ?_
    | refine g_T (by intro hb; simp only [go_sem, Nat.reduceEqDiff, Nat.reduceAdd, Nat.reduceLeDiff, hb]; first | done | rfl) ?_
    | refine g_F (by intro hb; simp only [go_sem, Nat.reduceEqDiff, Nat.reduceAdd, Nat.reduceLeDiff, hb]; first | done | rfl) ?_
    | refine g_gT (by intro hb hc; simp only [go_sem, Nat.reduceEqDiff, Nat.reduceAdd, Nat.reduceLeDiff, hb, hc]; first | done | rfl) ?_
    | refine g_gF (by intro hb hc; simp only [go_sem, Nat.reduceEqDiff, Nat.reduceAdd, Nat.reduceLeDiff, hb, hc]; first | done | rfl) ?_
    | refine g_skT ?_
    | refine g_skF ?_
    | refine g_goT (by simp only [go_sem, Nat.reduceEqDiff, Nat.reduceAdd, Nat.reduceLeDiff]; first | done | rfl) ?_
    | refine g_goF (by simp only [go_sem, Nat.reduceEqDiff, Nat.reduceAdd, Nat.reduceLeDiff]; first | done | rfl) ?_
    )
    generalize hσ : ((σ.new 5 ⟨2, [.agg [.sc (.string ⟨#[]⟩), .sc (.string ⟨#[]⟩)]], true, true⟩).put 5 (σ.c 5) (some ⟨2, [.agg [.sc (.string l[i].1), .sc (.string l[i].2)]], true, true⟩)) = σ1 at hg1 ⊢
    refine Wp.mono (Q := fun x fr τ => x = .normal ∧ ∃ k, Seek l i (sortedL (l.take i)) l[i] (.bx 5 (σ.c 5) 2 0 0) k fr τ ∧ insAt l[i] (sortedL (l.take i)) k = (sortedL (l.take i)).take k ++ l[i] :: (sortedL (l.take i)).drop k) ?_ ?_
    · refine w_block (w_loop (fun k fr τ => Seek l i (sortedL (l.take i)) l[i] (.bx 5 (σ.c 5) 2 0 0) k fr τ) ?_ (labs (sortedL (l.take i))).length _ _ ?_)
      · rintro k fr τ ⟨hle, q9, q11, q10, q5, ⟨g5, hpb, hm5, hlt5⟩, qg, q6, qi⟩
        obtain rfl : g5 = σ.c 5 := by simpa using hpb.symm
        cases k with
        | zero =>
          have hd0 : decide (((0 : Nat) : Int) > 0) = false := rfl
          (repeat' first
    | refine w_seq ?_
    | refine w_rg ?_
    | refine wo_nil ?_
    | refine s_plain (by simp only [go_sem, Nat.reduceEqDiff, Nat.reduceAdd, Nat.reduceLeDiff, q9, q11, q10, q5, q6, hd0]; first | done | rfl) ?_
    | refine s_void (by simp only [go_sem, Nat.reduceEqDiff, Nat.reduceAdd, Nat.reduceLeDiff, q9, q11, q10, q5, q6, hd0]; first | done | rfl) ?_
    | refine s_guard (by simp only [go_sem, Nat.reduceEqDiff, Nat.reduceAdd, Nat.reduceLeDiff, q9, q11, q10, q5, q6, hd0]; first | done | rfl) ?_
    | refine g_skU ?_
    | refine g_T (by intro hb; simp only [go_sem, Nat.reduceEqDiff, Nat.reduceAdd, Nat.reduceLeDiff, q9, q11, q10, q5, q6, hd0, hb]; first | done | rfl) ?_
    | refine g_F (by intro hb; simp only [go_sem, Nat.reduceEqDiff, Nat.reduceAdd, Nat.reduceLeDiff, q9, q11, q10, q5, q6, hd0, hb]; first | done | rfl) ?_
    | refine g_gT (by intro hb hc; simp only [go_sem, Nat.reduceEqDiff, Nat.reduceAdd, Nat.reduceLeDiff, q9, q11, q10, q5, q6, hd0, hb, hc]; first | done | rfl) ?_
    | refine g_gF (by intro hb hc; simp only [go_sem, Nat.reduceEqDiff, Nat.reduceAdd, Nat.reduceLeDiff, q9, q11, q10, q5, q6, hd0, hb, hc]; first | done | rfl) ?_
    | refine g_skT ?_
    | refine g_skF ?_
    | refine g_goT (by simp only [go_sem, Nat.reduceEqDiff, Nat.reduceAdd, Nat.reduceLeDiff, q9, q11, q10, q5, q6, hd0]; first | done | rfl) ?_
    | refine g_goF (by simp only [go_sem, Nat.reduceEqDiff, Nat.reduceAdd, Nat.reduceLeDiff, q9, q11, q10, q5, q6, hd0]; first | done | rfl) ?_
    | refine w_condT (by simp only [go_sem, Nat.reduceEqDiff, Nat.reduceAdd, Nat.reduceLeDiff, q9, q11, q10, q5, q6, hd0]; first | done | rfl) ?_
    | refine w_condF (by simp only [go_sem, Nat.reduceEqDiff, Nat.reduceAdd, Nat.reduceLeDiff, q9, q11, q10, q5, q6, hd0]; first | done | rfl) ?_
    | refine w_skip ?_
    | refine w_exit ?_
    | refine w_ret ?_
    )
          try simp only [if_true]
          refine ⟨by first | rfl | trivial, 0, ⟨hle, ?_, ?_, ?_, ?_, ⟨σ.c 5, rfl, hm5, hlt5⟩, ?_, ?_, qi⟩, rfl⟩
          · simp only [go_sem, Nat.reduceEqDiff, Nat.reduceAdd, Nat.reduceLeDiff, q9]
          · simp only [go_sem, Nat.reduceEqDiff, Nat.reduceAdd, Nat.reduceLeDiff, q11]
          · simp only [go_sem, Nat.reduceEqDiff, Nat.reduceAdd, Nat.reduceLeDiff, q10]
          · simp only [go_sem, Nat.reduceEqDiff, Nat.reduceAdd, Nat.reduceLeDiff, q5]
          · simp only [go_sem, Nat.reduceEqDiff, Nat.reduceAdd, Nat.reduceLeDiff]; exact qg
          · simp only [go_sem, Nat.reduceEqDiff, Nat.reduceAdd, Nat.reduceLeDiff, q6]
        | succ k =>
          have hd1 : decide (((k + 1 : Nat) : Int) > 0) = true := decide_eq_true (by omega)
          have e2 : IntKind.i64.wrap (((k + 1 : Nat) : Int) - 1) = (k : Int) := by rw [IntKind.wrap_i64]; omega
          have hx0 : (sortedL (l.take i))[k]? = some (nth (sortedL (l.take i)) k) := by unfold nth; rw [List.getElem?_eq_getElem (show k < (sortedL (l.take i)).length by omega)]; rfl
          have x0 := labs_at hx0
          simp only [lab] at x0 hm5
          have hsm : Smalls (sortedL (l.take i)) := sorted_smalls fun m hm => hl m (List.mem_of_mem_take hm)
          have h119 := a119 L (a := l[i].1) (b := (nth (sortedL (l.take i)) k).1) (hl _ (List.getElem_mem hi)).1 (hsm _ (List.mem_of_getElem? hx0)).1
          have hal2 : (labs (sortedL (l.take i))).length = i := by rw [labs_len]; exact hal
          rcases qg with ⟨_, hnil⟩ | ⟨o, g, wr, ho, q3, qm, qc, qne, _⟩
          · exfalso
            have := congrArg List.length hnil
            rw [labs_len] at this
            simp only [List.length_nil] at this
            omega
          · rw [hal2] at q3
            have ho' : o = 46 := by simpa using ho
            subst ho'
            have e4 : (0 : Int) ≤ (k : Int) ∧ (k : Int) < (i : Int) := by omega
            have qg' : Gat τ [46] 2 false (fr 3) (labs (sortedL (l.take i))) := .inr ⟨46, g, wr, by simp, by rw [q3, hal2], qm, qc, qne, fun h => by cases h⟩
            (repeat' first
    | refine w_seq ?_
    | refine w_rg ?_
    | refine wo_nil ?_
    | refine s_plain (by simp only [go_sem, Nat.reduceEqDiff, Nat.reduceAdd, Nat.reduceLeDiff, q9, q11, q10, q5, q6, q3, hm5, qm, hd1, e2, e4, Int.toNat_natCast, x0, h119]; first | done | rfl) ?_
    | refine s_void (by simp only [go_sem, Nat.reduceEqDiff, Nat.reduceAdd, Nat.reduceLeDiff, q9, q11, q10, q5, q6, q3, hm5, qm, hd1, e2, e4, Int.toNat_natCast, x0, h119]; first | done | rfl) ?_
    | refine s_guard (by simp only [go_sem, Nat.reduceEqDiff, Nat.reduceAdd, Nat.reduceLeDiff, q9, q11, q10, q5, q6, q3, hm5, qm, hd1, e2, e4, Int.toNat_natCast, x0, h119]; first | done | rfl) ?_
    | refine g_skU ?_
    | refine g_T (by intro hb; simp only [go_sem, Nat.reduceEqDiff, Nat.reduceAdd, Nat.reduceLeDiff, q9, q11, q10, q5, q6, q3, hm5, qm, hd1, e2, e4, Int.toNat_natCast, x0, h119, hb]; first | done | rfl) ?_
    | refine g_F (by intro hb; simp only [go_sem, Nat.reduceEqDiff, Nat.reduceAdd, Nat.reduceLeDiff, q9, q11, q10, q5, q6, q3, hm5, qm, hd1, e2, e4, Int.toNat_natCast, x0, h119, hb]; first | done | rfl) ?_
    | refine g_gT (by intro hb hc; simp only [go_sem, Nat.reduceEqDiff, Nat.reduceAdd, Nat.reduceLeDiff, q9, q11, q10, q5, q6, q3, hm5, qm, hd1, e2, e4, Int.toNat_natCast, x0, h119, hb, hc]; first | done | rfl) ?_
    | refine g_gF (by intro hb hc; simp only [go_sem, Nat.reduceEqDiff, Nat.reduceAdd, Nat.reduceLeDiff, q9, q11, q10, q5, q6, q3, hm5, qm, hd1, e2, e4, Int.toNat_natCast, x0, h119, hb, hc]; first | done | rfl) ?_
    | refine g_skT ?_
    | refine g_skF ?_
    | refine g_goT (by simp only [go_sem, Nat.reduceEqDiff, Nat.reduceAdd, Nat.reduceLeDiff, q9, q11, q10, q5, q6, q3, hm5, qm, hd1, e2, e4, Int.toNat_natCast, x0, h119]; first | done | rfl) ?_
    | refine g_goF (by simp only [go_sem, Nat.reduceEqDiff, Nat.reduceAdd, Nat.reduceLeDiff, q9, q11, q10, q5, q6, q3, hm5, qm, hd1, e2, e4, Int.toNat_natCast, x0, h119]; first | done | rfl) ?_
    )
            have hins : insAt l[i] (sortedL (l.take i)) (k + 1) = if lessB l[i].1 (nth (sortedL (l.take i)) k).1 then insAt l[i] (sortedL (l.take i)) k else (sortedL (l.take i)).take (k + 1) ++ l[i] :: (sortedL (l.take i)).drop (k + 1) := rfl
            cases hls : lessB l[i].1 (nth (sortedL (l.take i)) k).1 with
            | false =>
              rw [hls, if_neg (by decide)] at hins
              (repeat' first
    | refine w_seq ?_
    | refine w_rg ?_
    | refine wo_nil ?_
    | refine s_plain (by simp only [go_sem, Nat.reduceEqDiff, Nat.reduceAdd, Nat.reduceLeDiff]; first | done | rfl) ?_
    | refine s_void (by simp only [go_sem, Nat.reduceEqDiff, Nat.reduceAdd, Nat.reduceLeDiff]; first | done | rfl) ?_
    | refine s_guard (by simp only [go_sem, Nat.reduceEqDiff, Nat.reduceAdd, Nat.reduceLeDiff]; first | done | rfl) ?_
    | refine g_skU ?_
    | refine g_T (by intro hb; simp only [go_sem, Nat.reduceEqDiff, Nat.reduceAdd, Nat.reduceLeDiff, hb]; first | done | rfl) ?_
    | refine g_F (by intro hb; simp only [go_sem, Nat.reduceEqDiff, Nat.reduceAdd, Nat.reduceLeDiff, hb]; first | done | rfl) ?_
    | refine g_gT (by intro hb hc; simp only [go_sem, Nat.reduceEqDiff, Nat.reduceAdd, Nat.reduceLeDiff, hb, hc]; first | done | rfl) ?_
    | refine g_gF (by intro hb hc; simp only [go_sem, Nat.reduceEqDiff, Nat.reduceAdd, Nat.reduceLeDiff, hb, hc]; first | done | rfl) ?_
    | refine g_skT ?_
    | refine g_skF ?_
    | refine g_goT (by simp only [go_sem, Nat.reduceEqDiff, Nat.reduceAdd, Nat.reduceLeDiff]; first | done | rfl) ?_
    | refine g_goF (by simp only [go_sem, Nat.reduceEqDiff, Nat.reduceAdd, Nat.reduceLeDiff]; first | done | rfl) ?_
    | refine w_condT (by simp only [go_sem, Nat.reduceEqDiff, Nat.reduceAdd, Nat.reduceLeDiff]; first | done | rfl) ?_
    | refine w_condF (by simp only [go_sem, Nat.reduceEqDiff, Nat.reduceAdd, Nat.reduceLeDiff]; first | done | rfl) ?_
    | refine w_skip ?_
    | refine w_exit ?_
    | refine w_ret ?_
    )
              try simp only [if_true]
              refine ⟨by first | rfl | trivial, k + 1, ⟨hle, ?_, ?_, ?_, ?_, ⟨σ.c 5, rfl, hm5, hlt5⟩, ?_, ?_, qi⟩, hins⟩
              · simp only [go_sem, Nat.reduceEqDiff, Nat.reduceAdd, Nat.reduceLeDiff, q9]
              · simp only [go_sem, Nat.reduceEqDiff, Nat.reduceAdd, Nat.reduceLeDiff, q11]
              · simp only [go_sem, Nat.reduceEqDiff, Nat.reduceAdd, Nat.reduceLeDiff, q10]
              · simp only [go_sem, Nat.reduceEqDiff, Nat.reduceAdd, Nat.reduceLeDiff, q5]
              · simp only [go_sem, Nat.reduceEqDiff, Nat.reduceAdd, Nat.reduceLeDiff]; exact qg'
              · simp only [go_sem, Nat.reduceEqDiff, Nat.reduceAdd, Nat.reduceLeDiff, q6]
            | true =>
              rw [hls, if_pos rfl] at hins
              (repeat' first
    | refine w_seq ?_
    | refine w_rg ?_
    | refine wo_nil ?_
    | refine s_plain (by simp only [go_sem, Nat.reduceEqDiff, Nat.reduceAdd, Nat.reduceLeDiff]; first | done | rfl) ?_
    | refine s_void (by simp only [go_sem, Nat.reduceEqDiff, Nat.reduceAdd, Nat.reduceLeDiff]; first | done | rfl) ?_
    | refine s_guard (by simp only [go_sem, Nat.reduceEqDiff, Nat.reduceAdd, Nat.reduceLeDiff]; first | done | rfl) ?_
    | refine g_skU ?_
    | refine g_T (by intro hb; simp only [go_sem, Nat.reduceEqDiff, Nat.reduceAdd, Nat.reduceLeDiff, hb]; first | done | rfl) ?_
    | refine g_F (by intro hb; simp only [go_sem, Nat.reduceEqDiff, Nat.reduceAdd, Nat.reduceLeDiff, hb]; first | done | rfl) ?_
    | refine g_gT (by intro hb hc; simp only [go_sem, Nat.reduceEqDiff, Nat.reduceAdd, Nat.reduceLeDiff, hb, hc]; first | done | rfl) ?_
    | refine g_gF (by intro hb hc; simp only [go_sem, Nat.reduceEqDiff, Nat.reduceAdd, Nat.reduceLeDiff, hb, hc]; first | done | rfl) ?_
    | refine g_skT ?_
    | refine g_skF ?_
    | refine g_goT (by simp only [go_sem, Nat.reduceEqDiff, Nat.reduceAdd, Nat.reduceLeDiff]; first | done | rfl) ?_
    | refine g_goF (by simp only [go_sem, Nat.reduceEqDiff, Nat.reduceAdd, Nat.reduceLeDiff]; first | done | rfl) ?_
    | refine w_condT (by simp only [go_sem, Nat.reduceEqDiff, Nat.reduceAdd, Nat.reduceLeDiff]; first | done | rfl) ?_
    | refine w_condF (by simp only [go_sem, Nat.reduceEqDiff, Nat.reduceAdd, Nat.reduceLeDiff]; first | done | rfl) ?_
    | refine w_skip ?_
    | refine w_exit ?_
    | refine w_ret ?_
    )
              refine w_block ?_
              (repeat' first
    | refine w_seq ?_
    | refine w_rg ?_
    | refine wo_nil ?_
    | refine s_plain (by simp only [go_sem, Nat.reduceEqDiff, Nat.reduceAdd, Nat.reduceLeDiff, q6, e2]; first | done | rfl) ?_
    | refine s_void (by simp only [go_sem, Nat.reduceEqDiff, Nat.reduceAdd, Nat.reduceLeDiff, q6, e2]; first | done | rfl) ?_
    | refine s_guard (by simp only [go_sem, Nat.reduceEqDiff, Nat.reduceAdd, Nat.reduceLeDiff, q6, e2]; first | done | rfl) ?_
    | refine g_skU ?_
    | refine g_T (by intro hb; simp only [go_sem, Nat.reduceEqDiff, Nat.reduceAdd, Nat.reduceLeDiff, q6, e2, hb]; first | done | rfl) ?_
    | refine g_F (by intro hb; simp only [go_sem, Nat.reduceEqDiff, Nat.reduceAdd, Nat.reduceLeDiff, q6, e2, hb]; first | done | rfl) ?_
    | refine g_gT (by intro hb hc; simp only [go_sem, Nat.reduceEqDiff, Nat.reduceAdd, Nat.reduceLeDiff, q6, e2, hb, hc]; first | done | rfl) ?_
    | refine g_gF (by intro hb hc; simp only [go_sem, Nat.reduceEqDiff, Nat.reduceAdd, Nat.reduceLeDiff, q6, e2, hb, hc]; first | done | rfl) ?_
    | refine g_skT ?_
    | refine g_skF ?_
    | refine g_goT (by simp only [go_sem, Nat.reduceEqDiff, Nat.reduceAdd, Nat.reduceLeDiff, q6, e2]; first | done | rfl) ?_
    | refine g_goF (by simp only [go_sem, Nat.reduceEqDiff, Nat.reduceAdd, Nat.reduceLeDiff, q6, e2]; first | done | rfl) ?_
    | refine w_condT (by simp only [go_sem, Nat.reduceEqDiff, Nat.reduceAdd, Nat.reduceLeDiff, q6, e2]; first | done | rfl) ?_
    | refine w_condF (by simp only [go_sem, Nat.reduceEqDiff, Nat.reduceAdd, Nat.reduceLeDiff, q6, e2]; first | done | rfl) ?_
    | refine w_skip ?_
    | refine w_exit ?_
    | refine w_ret ?_
    )
              refine ⟨k, by omega, ⟨by omega, ?_, ?_, ?_, ?_, ⟨σ.c 5, rfl, hm5, hlt5⟩, ?_, ?_, by rw [qi, hins]⟩⟩
              · simp only [go_sem, Nat.reduceEqDiff, Nat.reduceAdd, Nat.reduceLeDiff, q9]
              · simp only [go_sem, Nat.reduceEqDiff, Nat.reduceAdd, Nat.reduceLeDiff, q11]
              · simp only [go_sem, Nat.reduceEqDiff, Nat.reduceAdd, Nat.reduceLeDiff, q10]
              · simp only [go_sem, Nat.reduceEqDiff, Nat.reduceAdd, Nat.reduceLeDiff, q5]
              · simp only [go_sem, Nat.reduceEqDiff, Nat.reduceAdd, Nat.reduceLeDiff]; exact qg'
              · simp only [go_sem, Nat.reduceEqDiff, Nat.reduceAdd, Nat.reduceLeDiff]
      · refine ⟨by rw [labs_len]; exact Nat.le_refl _, ?_, ?_, ?_, ?_, ⟨σ.c 5, rfl, ?_, ?_⟩, ?_, ?_, by rw [labs_len]⟩
        · simp only [go_sem, Nat.reduceEqDiff, Nat.reduceAdd, Nat.reduceLeDiff, f9]
        · simp only [go_sem, Nat.reduceEqDiff, Nat.reduceAdd, Nat.reduceLeDiff, hti]
        · simp only [go_sem, Nat.reduceEqDiff, Nat.reduceAdd, Nat.reduceLeDiff, htn]
        · simp only [go_sem, Nat.reduceEqDiff, Nat.reduceAdd, Nat.reduceLeDiff]
        · rw [← hσ]; simp only [go_sem, Nat.reduceEqDiff, Nat.reduceAdd, Nat.reduceLeDiff]; rfl
        · rw [← hσ]; simp only [go_sem, Nat.reduceEqDiff, Nat.reduceAdd, Nat.reduceLeDiff]
        · simp only [go_sem, Nat.reduceEqDiff, Nat.reduceAdd, Nat.reduceLeDiff]; exact hg1
        · simp only [go_sem, Nat.reduceEqDiff, Nat.reduceAdd, Nat.reduceLeDiff]
    · rintro x fr τ ⟨rfl, k, ⟨hle, q9, q11, q10, q5, ⟨g5, hpb, hm5, hlt5⟩, qg, q6, qi⟩, hins⟩
      obtain rfl : g5 = σ.c 5 := by simpa using hpb.symm
      have hal2 : (labs (sortedL (l.take i))).length = i := by rw [labs_len]; exact hal
      have bk := bound_nat (k := .i64) (show k ≤ i by omega)
      simp only [lab] at hm5
      (repeat' first
    | refine w_seq ?_
    | refine w_rg ?_
    | refine wo_nil ?_
    | refine s_plain (by simp only [go_sem, Nat.reduceEqDiff, Nat.reduceAdd, Nat.reduceLeDiff, q9, q11, q10, q5, q6]; first | done | rfl) ?_
    | refine s_void (by simp only [go_sem, Nat.reduceEqDiff, Nat.reduceAdd, Nat.reduceLeDiff, q9, q11, q10, q5, q6]; first | done | rfl) ?_
    | refine s_guard (by simp only [go_sem, Nat.reduceEqDiff, Nat.reduceAdd, Nat.reduceLeDiff, q9, q11, q10, q5, q6]; first | done | rfl) ?_
    | refine g_skU ?_
    | refine g_T (by intro hb; simp only [go_sem, Nat.reduceEqDiff, Nat.reduceAdd, Nat.reduceLeDiff, q9, q11, q10, q5, q6, hb]; first | done | rfl) ?_
    | refine g_F (by intro hb; simp only [go_sem, Nat.reduceEqDiff, Nat.reduceAdd, Nat.reduceLeDiff, q9, q11, q10, q5, q6, hb]; first | done | rfl) ?_
    | refine g_gT (by intro hb hc; simp only [go_sem, Nat.reduceEqDiff, Nat.reduceAdd, Nat.reduceLeDiff, q9, q11, q10, q5, q6, hb, hc]; first | done | rfl) ?_
    | refine g_gF (by intro hb hc; simp only [go_sem, Nat.reduceEqDiff, Nat.reduceAdd, Nat.reduceLeDiff, q9, q11, q10, q5, q6, hb, hc]; first | done | rfl) ?_
    | refine g_skT ?_
    | refine g_skF ?_
    | refine g_goT (by simp only [go_sem, Nat.reduceEqDiff, Nat.reduceAdd, Nat.reduceLeDiff, q9, q11, q10, q5, q6]; first | done | rfl) ?_
    | refine g_goF (by simp only [go_sem, Nat.reduceEqDiff, Nat.reduceAdd, Nat.reduceLeDiff, q9, q11, q10, q5, q6]; first | done | rfl) ?_
    )
      refine s_slc (h := k) (l := 0) (os := [46]) (w := false) (xs := labs (sortedL (l.take i))) (by simp only [go_sem, Nat.reduceEqDiff, Nat.reduceAdd, Nat.reduceLeDiff]; exact qg) (by simp only [go_sem, Nat.reduceEqDiff, Nat.reduceAdd, Nat.reduceLeDiff, hal2, q6, bk]) (by simp only [go_sem, Nat.reduceEqDiff, Nat.reduceAdd, Nat.reduceLeDiff]) (by omega) (Nat.zero_le _) ?_
      intro s1 hs1
      rw [List.drop_zero] at hs1
      refine s_gatL (os := []) (w := true) (xs := []) (ys := (labs (sortedL (l.take i))).take k) (by simp only [go_sem, Nat.reduceEqDiff, Nat.reduceAdd, Nat.reduceLeDiff]; exact .em) (by simp only [go_sem, Nat.reduceEqDiff, Nat.reduceAdd, Nat.reduceLeDiff]; exact src_elems hs1) (labs_okT _ _) (by simp; omega) ?_
      intro p1 τ1 hg1' kp1
      have hm5a : τ1.m 5 (σ.c 5) = some ⟨2, [.agg [.sc (.string l[i].1), .sc (.string l[i].2)]], true, true⟩ := by rw [kp1.m 5 _ (by simp) hlt5]; exact hm5
      have qg1 := qg.keep kp1 (by simp)
      (repeat' first
    | refine w_seq ?_
    | refine w_rg ?_
    | refine wo_nil ?_
    | refine s_plain (by simp only [go_sem, Nat.reduceEqDiff, Nat.reduceAdd, Nat.reduceLeDiff, q9, q11, q10, q5, q6, hm5a, fillE, List.replicate_succ, List.replicate_zero, List.set_cons_zero, List.drop_zero]; first | done | rfl) ?_
    | refine s_void (by simp only [go_sem, Nat.reduceEqDiff, Nat.reduceAdd, Nat.reduceLeDiff, q9, q11, q10, q5, q6, hm5a, fillE, List.replicate_succ, List.replicate_zero, List.set_cons_zero, List.drop_zero]; first | done | rfl) ?_
    | refine s_guard (by simp only [go_sem, Nat.reduceEqDiff, Nat.reduceAdd, Nat.reduceLeDiff, q9, q11, q10, q5, q6, hm5a, fillE, List.replicate_succ, List.replicate_zero, List.set_cons_zero, List.drop_zero]; first | done | rfl) ?_
    | refine g_skU ?_
    | refine g_T (by intro hb; simp only [go_sem, Nat.reduceEqDiff, Nat.reduceAdd, Nat.reduceLeDiff, q9, q11, q10, q5, q6, hm5a, fillE, List.replicate_succ, List.replicate_zero, List.set_cons_zero, List.drop_zero, hb]; first | done | rfl) ?_
    | refine g_F (by intro hb; simp only [go_sem, Nat.reduceEqDiff, Nat.reduceAdd, Nat.reduceLeDiff, q9, q11, q10, q5, q6, hm5a, fillE, List.replicate_succ, List.replicate_zero, List.set_cons_zero, List.drop_zero, hb]; first | done | rfl) ?_
    | refine g_gT (by intro hb hc; simp only [go_sem, Nat.reduceEqDiff, Nat.reduceAdd, Nat.reduceLeDiff, q9, q11, q10, q5, q6, hm5a, fillE, List.replicate_succ, List.replicate_zero, List.set_cons_zero, List.drop_zero, hb, hc]; first | done | rfl) ?_
    | refine g_gF (by intro hb hc; simp only [go_sem, Nat.reduceEqDiff, Nat.reduceAdd, Nat.reduceLeDiff, q9, q11, q10, q5, q6, hm5a, fillE, List.replicate_succ, List.replicate_zero, List.set_cons_zero, List.drop_zero, hb, hc]; first | done | rfl) ?_
    | refine g_skT ?_
    | refine g_skF ?_
    | refine g_goT (by simp only [go_sem, Nat.reduceEqDiff, Nat.reduceAdd, Nat.reduceLeDiff, q9, q11, q10, q5, q6, hm5a, fillE, List.replicate_succ, List.replicate_zero, List.set_cons_zero, List.drop_zero]; first | done | rfl) ?_
    | refine g_goF (by simp only [go_sem, Nat.reduceEqDiff, Nat.reduceAdd, Nat.reduceLeDiff, q9, q11, q10, q5, q6, hm5a, fillE, List.replicate_succ, List.replicate_zero, List.set_cons_zero, List.drop_zero]; first | done | rfl) ?_
    )
      refine s_gatL (os := [37]) (w := false) (ys := [.agg [.sc (.string l[i].1), .sc (.string l[i].2)]]) (by simp only [go_sem, Nat.reduceEqDiff, Nat.reduceAdd, Nat.reduceLeDiff]; exact hg1'.new _) (by simp only [go_sem, Nat.reduceEqDiff, Nat.reduceAdd, Nat.reduceLeDiff, srcOf, elemsOf, List.drop_zero]) rfl (by simp; omega) ?_
      intro p2 τ2 hg2' kp2
      have qg2 := (qg1.new _).keep kp2 (by simp)
      (repeat' first
    | refine w_seq ?_
    | refine w_rg ?_
    | refine wo_nil ?_
    | refine s_plain (by simp only [go_sem, Nat.reduceEqDiff, Nat.reduceAdd, Nat.reduceLeDiff, q9, q11, q10, q5, q6]; first | done | rfl) ?_
    | refine s_void (by simp only [go_sem, Nat.reduceEqDiff, Nat.reduceAdd, Nat.reduceLeDiff, q9, q11, q10, q5, q6]; first | done | rfl) ?_
    | refine s_guard (by simp only [go_sem, Nat.reduceEqDiff, Nat.reduceAdd, Nat.reduceLeDiff, q9, q11, q10, q5, q6]; first | done | rfl) ?_
    | refine g_skU ?_
    | refine g_T (by intro hb; simp only [go_sem, Nat.reduceEqDiff, Nat.reduceAdd, Nat.reduceLeDiff, q9, q11, q10, q5, q6, hb]; first | done | rfl) ?_
    | refine g_F (by intro hb; simp only [go_sem, Nat.reduceEqDiff, Nat.reduceAdd, Nat.reduceLeDiff, q9, q11, q10, q5, q6, hb]; first | done | rfl) ?_
    | refine g_gT (by intro hb hc; simp only [go_sem, Nat.reduceEqDiff, Nat.reduceAdd, Nat.reduceLeDiff, q9, q11, q10, q5, q6, hb, hc]; first | done | rfl) ?_
    | refine g_gF (by intro hb hc; simp only [go_sem, Nat.reduceEqDiff, Nat.reduceAdd, Nat.reduceLeDiff, q9, q11, q10, q5, q6, hb, hc]; first | done | rfl) ?_
    | refine g_skT ?_
    | refine g_skF ?_
    | refine g_goT (by simp only [go_sem, Nat.reduceEqDiff, Nat.reduceAdd, Nat.reduceLeDiff, q9, q11, q10, q5, q6]; first | done | rfl) ?_
    | refine g_goF (by simp only [go_sem, Nat.reduceEqDiff, Nat.reduceAdd, Nat.reduceLeDiff, q9, q11, q10, q5, q6]; first | done | rfl) ?_
    )
      refine s_slc (h := i) (l := k) (os := [46]) (w := false) (xs := labs (sortedL (l.take i))) (by simp only [go_sem, Nat.reduceEqDiff, Nat.reduceAdd, Nat.reduceLeDiff]; exact qg2) (by simp only [go_sem, Nat.reduceEqDiff, Nat.reduceAdd, Nat.reduceLeDiff, hal2]) (by simp only [go_sem, Nat.reduceEqDiff, Nat.reduceAdd, Nat.reduceLeDiff, q6, bk]) (by omega) (by omega) ?_
      intro s2 hs2
      rw [List.take_of_length_le (by omega)] at hs2
      refine s_gatL (os := [41]) (w := false) (ys := (labs (sortedL (l.take i))).drop k) (by simp only [go_sem, Nat.reduceEqDiff, Nat.reduceAdd, Nat.reduceLeDiff]; exact hg2') (by simp only [go_sem, Nat.reduceEqDiff, Nat.reduceAdd, Nat.reduceLeDiff]; exact src_elems hs2) (labs_okD _ _) (by simp; omega) ?_
      intro p3 τ3 hg3' kp3
      (repeat' first
    | refine w_seq ?_
    | refine w_rg ?_
    | refine wo_nil ?_
    | refine s_plain (by simp only [go_sem, Nat.reduceEqDiff, Nat.reduceAdd, Nat.reduceLeDiff]; first | done | rfl) ?_
    | refine s_void (by simp only [go_sem, Nat.reduceEqDiff, Nat.reduceAdd, Nat.reduceLeDiff]; first | done | rfl) ?_
    | refine s_guard (by simp only [go_sem, Nat.reduceEqDiff, Nat.reduceAdd, Nat.reduceLeDiff]; first | done | rfl) ?_
    | refine g_skU ?_
    | refine g_T (by intro hb; simp only [go_sem, Nat.reduceEqDiff, Nat.reduceAdd, Nat.reduceLeDiff, hb]; first | done | rfl) ?_
    | refine g_F (by intro hb; simp only [go_sem, Nat.reduceEqDiff, Nat.reduceAdd, Nat.reduceLeDiff, hb]; first | done | rfl) ?_
    | refine g_gT (by intro hb hc; simp only [go_sem, Nat.reduceEqDiff, Nat.reduceAdd, Nat.reduceLeDiff, hb, hc]; first | done | rfl) ?_
    | refine g_gF (by intro hb hc; simp only [go_sem, Nat.reduceEqDiff, Nat.reduceAdd, Nat.reduceLeDiff, hb, hc]; first | done | rfl) ?_
    | refine g_skT ?_
    | refine g_skF ?_
    | refine g_goT (by simp only [go_sem, Nat.reduceEqDiff, Nat.reduceAdd, Nat.reduceLeDiff]; first | done | rfl) ?_
    | refine g_goF (by simp only [go_sem, Nat.reduceEqDiff, Nat.reduceAdd, Nat.reduceLeDiff]; first | done | rfl) ?_
    | refine w_condT (by simp only [go_sem, Nat.reduceEqDiff, Nat.reduceAdd, Nat.reduceLeDiff]; first | done | rfl) ?_
    | refine w_condF (by simp only [go_sem, Nat.reduceEqDiff, Nat.reduceAdd, Nat.reduceLeDiff]; first | done | rfl) ?_
    | refine w_skip ?_
    | refine w_exit ?_
    | refine w_ret ?_
    )
      refine ⟨⟨?_, ?_⟩, ?_, ?_⟩
      · simp only [go_sem, Nat.reduceEqDiff, Nat.reduceAdd, Nat.reduceLeDiff, q9]
      · simp only [go_sem, Nat.reduceEqDiff, Nat.reduceAdd, Nat.reduceLeDiff]
        have hfin : labs (sortedL (l.take (i + 1))) = [] ++ (labs (sortedL (l.take i))).take k ++ [.agg [.sc (.string l[i].1), .sc (.string l[i].2)]] ++ (labs (sortedL (l.take i))).drop k := by
          rw [sortedL_succ hi, insR, qi, hins]
          simp [labs, lab]
        rw [hfin]
        exact hg3'
      · simp only [go_sem, Nat.reduceEqDiff, Nat.reduceAdd, Nat.reduceLeDiff, q11]
      · simp only [go_sem, Nat.reduceEqDiff, Nat.reduceAdd, Nat.reduceLeDiff, q10]
  · rintro fr σ ⟨f9, hg⟩
    try simp only [if_true]
    rw [List.take_of_length_le (Nat.le_refl _)] at hg
    have hfz := hg.fz (labs_fz σ _)
    (repeat' first
    | refine w_seq ?_
    | refine w_rg ?_
    | refine wo_nil ?_
    | refine s_plain (by simp only [go_sem, Nat.reduceEqDiff, Nat.reduceAdd, Nat.reduceLeDiff]; first | done | rfl) ?_
    | refine s_void (by simp only [go_sem, Nat.reduceEqDiff, Nat.reduceAdd, Nat.reduceLeDiff]; first | done | rfl) ?_
    | refine s_guard (by simp only [go_sem, Nat.reduceEqDiff, Nat.reduceAdd, Nat.reduceLeDiff]; first | done | rfl) ?_
    | refine g_skU ?_
    | refine g_T (by intro hb; simp only [go_sem, Nat.reduceEqDiff, Nat.reduceAdd, Nat.reduceLeDiff, hb]; first | done | rfl) ?_
    | refine g_F (by intro hb; simp only [go_sem, Nat.reduceEqDiff, Nat.reduceAdd, Nat.reduceLeDiff, hb]; first | done | rfl) ?_
    | refine g_gT (by intro hb hc; simp only [go_sem, Nat.reduceEqDiff, Nat.reduceAdd, Nat.reduceLeDiff, hb, hc]; first | done | rfl) ?_
    | refine g_gF (by intro hb hc; simp only [go_sem, Nat.reduceEqDiff, Nat.reduceAdd, Nat.reduceLeDiff, hb, hc]; first | done | rfl) ?_
    | refine g_skT ?_
    | refine g_skF ?_
    | refine g_goT (by simp only [go_sem, Nat.reduceEqDiff, Nat.reduceAdd, Nat.reduceLeDiff]; first | done | rfl) ?_
    | refine g_goF (by simp only [go_sem, Nat.reduceEqDiff, Nat.reduceAdd, Nat.reduceLeDiff]; first | done | rfl) ?_
    | refine w_condT (by simp only [go_sem, Nat.reduceEqDiff, Nat.reduceAdd, Nat.reduceLeDiff]; first | done | rfl) ?_
    | refine w_condF (by simp only [go_sem, Nat.reduceEqDiff, Nat.reduceAdd, Nat.reduceLeDiff]; first | done | rfl) ?_
    | refine w_skip ?_
    | refine w_exit ?_
    | refine w_ret ?_
    )
    exact ⟨.inr rfl, by simp only [go_sem, Nat.reduceEqDiff, Nat.reduceAdd, Nat.reduceLeDiff, retOf, resOf, hfz]⟩
  · exact ⟨by simp only [go_sem, Nat.reduceEqDiff, Nat.reduceAdd, Nat.reduceLeDiff], by simp only [go_sem, Nat.reduceEqDiff, Nat.reduceAdd, Nat.reduceLeDiff]; exact .em⟩
  · simp only [go_sem, Nat.reduceEqDiff, Nat.reduceAdd, Nat.reduceLeDiff]
  · simp only [go_sem, Nat.reduceEqDiff, Nat.reduceAdd, Nat.reduceLeDiff, hll]

theorem a191 (L : Has ll0 env) (R : Has lr env) {l over : List Lab} (hn : l.length ≤ 1000) (hl : Smalls l) (hn' : over.length ≤ 1000) (hl' : Smalls over) :
    AV env 191 [.sl (labs l), .sl (labs over)] = some (.sl (labs (sortedL (overL l over)))) := by
  have hll := labs_len l
  have hlo := labs_len over
  refine AV_wp (R (191, d191) (by simp [lr])) rfl ?_
  (repeat' first
    | refine w_seq ?_
    | refine w_rg ?_
    | refine wo_nil ?_
    | refine s_plain (by simp only [go_sem, Nat.reduceEqDiff, Nat.reduceAdd, Nat.reduceLeDiff]; first | done | rfl) ?_
    | refine s_void (by simp only [go_sem, Nat.reduceEqDiff, Nat.reduceAdd, Nat.reduceLeDiff]; first | done | rfl) ?_
    | refine s_guard (by simp only [go_sem, Nat.reduceEqDiff, Nat.reduceAdd, Nat.reduceLeDiff]; first | done | rfl) ?_
    | refine g_skU ?_
    | refine g_T (by intro hb; simp only [go_sem, Nat.reduceEqDiff, Nat.reduceAdd, Nat.reduceLeDiff, hb]; first | done | rfl) ?_
    | refine g_F (by intro hb; simp only [go_sem, Nat.reduceEqDiff, Nat.reduceAdd, Nat.reduceLeDiff, hb]; first | done | rfl) ?_
    | refine g_gT (by intro hb hc; simp only [go_sem, Nat.reduceEqDiff, Nat.reduceAdd, Nat.reduceLeDiff, hb, hc]; first | done | rfl) ?_
    | refine g_gF (by intro hb hc; simp only [go_sem, Nat.reduceEqDiff, Nat.reduceAdd, Nat.reduceLeDiff, hb, hc]; first | done | rfl) ?_
    | refine g_skT ?_
    | refine g_skF ?_
    | refine g_goT (by simp only [go_sem, Nat.reduceEqDiff, Nat.reduceAdd, Nat.reduceLeDiff]; first | done | rfl) ?_
    | refine g_goF (by simp only [go_sem, Nat.reduceEqDiff, Nat.reduceAdd, Nat.reduceLeDiff]; first | done | rfl) ?_
    )
  refine s_gatL (os := []) (w := true) (xs := []) (ys := labs over) (by simp only [go_sem, Nat.reduceEqDiff, Nat.reduceAdd, Nat.reduceLeDiff]; exact .em) (by simp only [go_sem, Nat.reduceEqDiff, Nat.reduceAdd, Nat.reduceLeDiff, srcOf, elemsOf]) (labs_ok _) (by simp; omega) ?_
  intro r σ1 hg _
  rw [List.nil_append] at hg
  (repeat' first
    | refine w_seq ?_
    | refine w_rg ?_
    | refine wo_nil ?_
    | refine s_plain (by simp only [go_sem, Nat.reduceEqDiff, Nat.reduceAdd, Nat.reduceLeDiff, hll]; first | done | rfl) ?_
    | refine s_void (by simp only [go_sem, Nat.reduceEqDiff, Nat.reduceAdd, Nat.reduceLeDiff, hll]; first | done | rfl) ?_
    | refine s_guard (by simp only [go_sem, Nat.reduceEqDiff, Nat.reduceAdd, Nat.reduceLeDiff, hll]; first | done | rfl) ?_
    | refine g_skU ?_
    | refine g_T (by intro hb; simp only [go_sem, Nat.reduceEqDiff, Nat.reduceAdd, Nat.reduceLeDiff, hll, hb]; first | done | rfl) ?_
    | refine g_F (by intro hb; simp only [go_sem, Nat.reduceEqDiff, Nat.reduceAdd, Nat.reduceLeDiff, hll, hb]; first | done | rfl) ?_
    | refine g_gT (by intro hb hc; simp only [go_sem, Nat.reduceEqDiff, Nat.reduceAdd, Nat.reduceLeDiff, hll, hb, hc]; first | done | rfl) ?_
    | refine g_gF (by intro hb hc; simp only [go_sem, Nat.reduceEqDiff, Nat.reduceAdd, Nat.reduceLeDiff, hll, hb, hc]; first | done | rfl) ?_
    | refine g_skT ?_
    | refine g_skF ?_
    | refine g_goT (by simp only [go_sem, Nat.reduceEqDiff, Nat.reduceAdd, Nat.reduceLeDiff, hll]; first | done | rfl) ?_
    | refine g_goF (by simp only [go_sem, Nat.reduceEqDiff, Nat.reduceAdd, Nat.reduceLeDiff, hll]; first | done | rfl) ?_
    )
  refine w_block (w_range l.length (by omega) (fun i fr σ => fr 1 = .sl (labs over) ∧ fr 12 = .sl (labs l) ∧ Gat σ [11, 26] 2 false (fr 5) (labs (overL (l.take i) over))) (by decide) ?_ ?_ ?_ _ _ ?_ ?_ ?_)
  · rintro i fr σ v ⟨h0, h1, h2⟩
    refine ⟨⟨?_, ?_, ?_⟩, ⟨?_, ?_, ?_⟩, ⟨?_, ?_, ?_⟩⟩ <;> simp only [go_sem, Nat.reduceEqDiff, Nat.reduceAdd, Nat.reduceLeDiff, h0, h1, h2]
  · rintro i fr σ hi ⟨f1, f19, hg⟩ hti htn
    have hy := labs_at (List.getElem?_eq_getElem hi)
    have e1 : (0 : Int) ≤ (i : Int) ∧ (i : Int) < (l.length : Int) := by omega
    have h114 := a200 R (l := over) (n := l[i].1) (by omega)
    refine w_block ?_
    simp only [lab] at hy
    (repeat' first
    | refine w_seq ?_
    | refine w_rg ?_
    | refine wo_nil ?_
    | refine s_plain (by simp only [go_sem, Nat.reduceEqDiff, Nat.reduceAdd, Nat.reduceLeDiff, f1, f19, hti, e1, hll, Int.toNat_natCast, hy, List.modify_zero_cons, h114]; first | done | rfl) ?_
    | refine s_void (by simp only [go_sem, Nat.reduceEqDiff, Nat.reduceAdd, Nat.reduceLeDiff, f1, f19, hti, e1, hll, Int.toNat_natCast, hy, List.modify_zero_cons, h114]; first | done | rfl) ?_
    | refine s_guard (by simp only [go_sem, Nat.reduceEqDiff, Nat.reduceAdd, Nat.reduceLeDiff, f1, f19, hti, e1, hll, Int.toNat_natCast, hy, List.modify_zero_cons, h114]; first | done | rfl) ?_
    | refine g_skU ?_
    | refine g_T (by intro hb; simp only [go_sem, Nat.reduceEqDiff, Nat.reduceAdd, Nat.reduceLeDiff, f1, f19, hti, e1, hll, Int.toNat_natCast, hy, List.modify_zero_cons, h114, hb]; first | done | rfl) ?_
    | refine g_F (by intro hb; simp only [go_sem, Nat.reduceEqDiff, Nat.reduceAdd, Nat.reduceLeDiff, f1, f19, hti, e1, hll, Int.toNat_natCast, hy, List.modify_zero_cons, h114, hb]; first | done | rfl) ?_
    | refine g_gT (by intro hb hc; simp only [go_sem, Nat.reduceEqDiff, Nat.reduceAdd, Nat.reduceLeDiff, f1, f19, hti, e1, hll, Int.toNat_natCast, hy, List.modify_zero_cons, h114, hb, hc]; first | done | rfl) ?_
    | refine g_gF (by intro hb hc; simp only [go_sem, Nat.reduceEqDiff, Nat.reduceAdd, Nat.reduceLeDiff, f1, f19, hti, e1, hll, Int.toNat_natCast, hy, List.modify_zero_cons, h114, hb, hc]; first | done | rfl) ?_
    | refine g_skT ?_
    | refine g_skF ?_
    | refine g_goT (by simp only [go_sem, Nat.reduceEqDiff, Nat.reduceAdd, Nat.reduceLeDiff, f1, f19, hti, e1, hll, Int.toNat_natCast, hy, List.modify_zero_cons, h114]; first | done | rfl) ?_
    | refine g_goF (by simp only [go_sem, Nat.reduceEqDiff, Nat.reduceAdd, Nat.reduceLeDiff, f1, f19, hti, e1, hll, Int.toNat_natCast, hy, List.modify_zero_cons, h114]; first | done | rfl) ?_
    )
    have hmi : missB over l[i] = ((getB over l[i].1).toList == (⟨#[]⟩ : ByteArray).toList) := rfl
    have htake : l.take (i + 1) = l.take i ++ [l[i]] := List.take_succ_eq_append_getElem hi
    have hov : labs (overL (l.take (i + 1)) over) = labs (overL (l.take i) over) ++ (if missB over l[i] = true then [.agg [.sc (.string l[i].1), .sc (.string l[i].2)]] else []) := by
      rw [htake]
      unfold overL
      rw [List.filter_append]
      cases hm : missB over l[i] <;> simp [labs, hm, lab]
    cases hb : missB over l[i] with
    | true =>
      rw [hb, if_pos rfl] at hov
      rw [hmi] at hb
      refine w_condT (by simp only [go_sem, Nat.reduceEqDiff, Nat.reduceAdd, Nat.reduceLeDiff, hb]) ?_
      (repeat' first
    | refine w_seq ?_
    | refine w_rg ?_
    | refine wo_nil ?_
    | refine s_plain (by simp only [go_sem, Nat.reduceEqDiff, Nat.reduceAdd, Nat.reduceLeDiff, List.drop_zero, fillE, List.replicate_succ, List.replicate_zero, List.set_cons_zero]; first | done | rfl) ?_
    | refine s_void (by simp only [go_sem, Nat.reduceEqDiff, Nat.reduceAdd, Nat.reduceLeDiff, List.drop_zero, fillE, List.replicate_succ, List.replicate_zero, List.set_cons_zero]; first | done | rfl) ?_
    | refine s_guard (by simp only [go_sem, Nat.reduceEqDiff, Nat.reduceAdd, Nat.reduceLeDiff, List.drop_zero, fillE, List.replicate_succ, List.replicate_zero, List.set_cons_zero]; first | done | rfl) ?_
    | refine g_skU ?_
    | refine g_T (by intro hb; simp only [go_sem, Nat.reduceEqDiff, Nat.reduceAdd, Nat.reduceLeDiff, List.drop_zero, fillE, List.replicate_succ, List.replicate_zero, List.set_cons_zero, hb]; first | done | rfl) ?_
    | refine g_F (by intro hb; simp only [go_sem, Nat.reduceEqDiff, Nat.reduceAdd, Nat.reduceLeDiff, List.drop_zero, fillE, List.replicate_succ, List.replicate_zero, List.set_cons_zero, hb]; first | done | rfl) ?_
    | refine g_gT (by intro hb hc; simp only [go_sem, Nat.reduceEqDiff, Nat.reduceAdd, Nat.reduceLeDiff, List.drop_zero, fillE, List.replicate_succ, List.replicate_zero, List.set_cons_zero, hb, hc]; first | done | rfl) ?_
    | refine g_gF (by intro hb hc; simp only [go_sem, Nat.reduceEqDiff, Nat.reduceAdd, Nat.reduceLeDiff, List.drop_zero, fillE, List.replicate_succ, List.replicate_zero, List.set_cons_zero, hb, hc]; first | done | rfl) ?_
    | refine g_skT ?_
    | refine g_skF ?_
    | refine g_goT (by simp only [go_sem, Nat.reduceEqDiff, Nat.reduceAdd, Nat.reduceLeDiff, List.drop_zero, fillE, List.replicate_succ, List.replicate_zero, List.set_cons_zero]; first | done | rfl) ?_
    | refine g_goF (by simp only [go_sem, Nat.reduceEqDiff, Nat.reduceAdd, Nat.reduceLeDiff, List.drop_zero, fillE, List.replicate_succ, List.replicate_zero, List.set_cons_zero]; first | done | rfl) ?_
    )
      have hlen : (labs (overL (l.take i) over)).length ≤ 3000 := by
        have := overL_len (l.take i) over
        rw [List.length_take] at this
        rw [labs_len]; omega
      refine s_gat (os := [11, 26]) (w := false) (xs := labs (overL (l.take i) over)) (e := .agg [.sc (.string l[i].1), .sc (.string l[i].2)]) (by simp only [go_sem, Nat.reduceEqDiff, Nat.reduceAdd, Nat.reduceLeDiff]; exact ((hg.new _).put (d := 7) (by decide) _).new _) (by decide) (by simp only [go_sem, Nat.reduceEqDiff, Nat.reduceAdd, Nat.reduceLeDiff, srcOf, elemsOf, List.drop_zero]) rfl rfl (by omega) ?_
      intro p σ' hg2
      simp only [Bool.false_and] at hg2
      rw [← hov] at hg2
      (repeat' first
    | refine w_seq ?_
    | refine w_rg ?_
    | refine wo_nil ?_
    | refine s_plain (by simp only [go_sem, Nat.reduceEqDiff, Nat.reduceAdd, Nat.reduceLeDiff]; first | done | rfl) ?_
    | refine s_void (by simp only [go_sem, Nat.reduceEqDiff, Nat.reduceAdd, Nat.reduceLeDiff]; first | done | rfl) ?_
    | refine s_guard (by simp only [go_sem, Nat.reduceEqDiff, Nat.reduceAdd, Nat.reduceLeDiff]; first | done | rfl) ?_
    | refine g_skU ?_
    | refine g_T (by intro hb; simp only [go_sem, Nat.reduceEqDiff, Nat.reduceAdd, Nat.reduceLeDiff, hb]; first | done | rfl) ?_
    | refine g_F (by intro hb; simp only [go_sem, Nat.reduceEqDiff, Nat.reduceAdd, Nat.reduceLeDiff, hb]; first | done | rfl) ?_
    | refine g_gT (by intro hb hc; simp only [go_sem, Nat.reduceEqDiff, Nat.reduceAdd, Nat.reduceLeDiff, hb, hc]; first | done | rfl) ?_
    | refine g_gF (by intro hb hc; simp only [go_sem, Nat.reduceEqDiff, Nat.reduceAdd, Nat.reduceLeDiff, hb, hc]; first | done | rfl) ?_
    | refine g_skT ?_
    | refine g_skF ?_
    | refine g_goT (by simp only [go_sem, Nat.reduceEqDiff, Nat.reduceAdd, Nat.reduceLeDiff]; first | done | rfl) ?_
    | refine g_goF (by simp only [go_sem, Nat.reduceEqDiff, Nat.reduceAdd, Nat.reduceLeDiff]; first | done | rfl) ?_
    | refine w_condT (by simp only [go_sem, Nat.reduceEqDiff, Nat.reduceAdd, Nat.reduceLeDiff]; first | done | rfl) ?_
    | refine w_condF (by simp only [go_sem, Nat.reduceEqDiff, Nat.reduceAdd, Nat.reduceLeDiff]; first | done | rfl) ?_
    | refine w_skip ?_
    | refine w_exit ?_
    | refine w_ret ?_
    )
      refine ⟨⟨?_, ?_, ?_⟩, ?_, ?_⟩
      · simp only [go_sem, Nat.reduceEqDiff, Nat.reduceAdd, Nat.reduceLeDiff, f1]
      · simp only [go_sem, Nat.reduceEqDiff, Nat.reduceAdd, Nat.reduceLeDiff, f19]
      · simp only [go_sem, Nat.reduceEqDiff, Nat.reduceAdd, Nat.reduceLeDiff]; exact hg2
      · simp only [go_sem, Nat.reduceEqDiff, Nat.reduceAdd, Nat.reduceLeDiff, hti]
      · simp only [go_sem, Nat.reduceEqDiff, Nat.reduceAdd, Nat.reduceLeDiff, htn]
    | false =>
      rw [hb, if_neg (by decide), List.append_nil] at hov
      rw [hmi] at hb
      refine w_condF (by simp only [go_sem, Nat.reduceEqDiff, Nat.reduceAdd, Nat.reduceLeDiff, hb]) ?_
      (repeat' first
    | refine w_seq ?_
    | refine w_rg ?_
    | refine wo_nil ?_
    | refine s_plain (by simp only [go_sem, Nat.reduceEqDiff, Nat.reduceAdd, Nat.reduceLeDiff]; first | done | rfl) ?_
    | refine s_void (by simp only [go_sem, Nat.reduceEqDiff, Nat.reduceAdd, Nat.reduceLeDiff]; first | done | rfl) ?_
    | refine s_guard (by simp only [go_sem, Nat.reduceEqDiff, Nat.reduceAdd, Nat.reduceLeDiff]; first | done | rfl) ?_
    | refine g_skU ?_
    | refine g_T (by intro hb; simp only [go_sem, Nat.reduceEqDiff, Nat.reduceAdd, Nat.reduceLeDiff, hb]; first | done | rfl) ?_
    | refine g_F (by intro hb; simp only [go_sem, Nat.reduceEqDiff, Nat.reduceAdd, Nat.reduceLeDiff, hb]; first | done | rfl) ?_
    | refine g_gT (by intro hb hc; simp only [go_sem, Nat.reduceEqDiff, Nat.reduceAdd, Nat.reduceLeDiff, hb, hc]; first | done | rfl) ?_
    | refine g_gF (by intro hb hc; simp only [go_sem, Nat.reduceEqDiff, Nat.reduceAdd, Nat.reduceLeDiff, hb, hc]; first | done | rfl) ?_
    | refine g_skT ?_
    | refine g_skF ?_
    | refine g_goT (by simp only [go_sem, Nat.reduceEqDiff, Nat.reduceAdd, Nat.reduceLeDiff]; first | done | rfl) ?_
    | refine g_goF (by simp only [go_sem, Nat.reduceEqDiff, Nat.reduceAdd, Nat.reduceLeDiff]; first | done | rfl) ?_
    | refine w_condT (by simp only [go_sem, Nat.reduceEqDiff, Nat.reduceAdd, Nat.reduceLeDiff]; first | done | rfl) ?_
    | refine w_condF (by simp only [go_sem, Nat.reduceEqDiff, Nat.reduceAdd, Nat.reduceLeDiff]; first | done | rfl) ?_
    | refine w_skip ?_
    | refine w_exit ?_
    | refine w_ret ?_
    )
      refine ⟨⟨?_, ?_, ?_⟩, ?_, ?_⟩
      · simp only [go_sem, Nat.reduceEqDiff, Nat.reduceAdd, Nat.reduceLeDiff, f1]
      · simp only [go_sem, Nat.reduceEqDiff, Nat.reduceAdd, Nat.reduceLeDiff, f19]
      · simp only [go_sem, Nat.reduceEqDiff, Nat.reduceAdd, Nat.reduceLeDiff]; rw [hov]; exact (hg.new _).put (d := 7) (by decide) _
      · simp only [go_sem, Nat.reduceEqDiff, Nat.reduceAdd, Nat.reduceLeDiff, hti]
      · simp only [go_sem, Nat.reduceEqDiff, Nat.reduceAdd, Nat.reduceLeDiff, htn]
  · rintro fr σ ⟨f1, f19, hg⟩
    try simp only [if_true]
    rw [List.take_of_length_le (Nat.le_refl _)] at hg
    have hfz := hg.fz (labs_fz σ _)
    have h129 := a201 L R (l := overL l over) (by have := overL_len l over; omega) (overL_smalls hl hl')
    (repeat' first
    | refine w_seq ?_
    | refine w_rg ?_
    | refine wo_nil ?_
    | refine s_plain (by simp only [go_sem, Nat.reduceEqDiff, Nat.reduceAdd, Nat.reduceLeDiff]; first | done | rfl) ?_
    | refine s_void (by simp only [go_sem, Nat.reduceEqDiff, Nat.reduceAdd, Nat.reduceLeDiff]; first | done | rfl) ?_
    | refine s_guard (by simp only [go_sem, Nat.reduceEqDiff, Nat.reduceAdd, Nat.reduceLeDiff]; first | done | rfl) ?_
    | refine g_skU ?_
    | refine g_T (by intro hb; simp only [go_sem, Nat.reduceEqDiff, Nat.reduceAdd, Nat.reduceLeDiff, hb]; first | done | rfl) ?_
    | refine g_F (by intro hb; simp only [go_sem, Nat.reduceEqDiff, Nat.reduceAdd, Nat.reduceLeDiff, hb]; first | done | rfl) ?_
    | refine g_gT (by intro hb hc; simp only [go_sem, Nat.reduceEqDiff, Nat.reduceAdd, Nat.reduceLeDiff, hb, hc]; first | done | rfl) ?_
    | refine g_gF (by intro hb hc; simp only [go_sem, Nat.reduceEqDiff, Nat.reduceAdd, Nat.reduceLeDiff, hb, hc]; first | done | rfl) ?_
    | refine g_skT ?_
    | refine g_skF ?_
    | refine g_goT (by simp only [go_sem, Nat.reduceEqDiff, Nat.reduceAdd, Nat.reduceLeDiff]; first | done | rfl) ?_
    | refine g_goF (by simp only [go_sem, Nat.reduceEqDiff, Nat.reduceAdd, Nat.reduceLeDiff]; first | done | rfl) ?_
    )
    refine s_call (as := [.sl (labs (overL l over))]) (by simp only [go_sem, Nat.reduceEqDiff, Nat.reduceAdd, Nat.reduceLeDiff, hfz]) h129 ?_
    intro σ'
    (repeat' first
    | refine w_seq ?_
    | refine w_rg ?_
    | refine wo_nil ?_
    | refine s_plain (by simp only [go_sem, Nat.reduceEqDiff, Nat.reduceAdd, Nat.reduceLeDiff]; first | done | rfl) ?_
    | refine s_void (by simp only [go_sem, Nat.reduceEqDiff, Nat.reduceAdd, Nat.reduceLeDiff]; first | done | rfl) ?_
    | refine s_guard (by simp only [go_sem, Nat.reduceEqDiff, Nat.reduceAdd, Nat.reduceLeDiff]; first | done | rfl) ?_
    | refine g_skU ?_
    | refine g_T (by intro hb; simp only [go_sem, Nat.reduceEqDiff, Nat.reduceAdd, Nat.reduceLeDiff, hb]; first | done | rfl) ?_
    | refine g_F (by intro hb; simp only [go_sem, Nat.reduceEqDiff, Nat.reduceAdd, Nat.reduceLeDiff, hb]; first | done | rfl) ?_
    | refine g_gT (by intro hb hc; simp only [go_sem, Nat.reduceEqDiff, Nat.reduceAdd, Nat.reduceLeDiff, hb, hc]; first | done | rfl) ?_
    | refine g_gF (by intro hb hc; simp only [go_sem, Nat.reduceEqDiff, Nat.reduceAdd, Nat.reduceLeDiff, hb, hc]; first | done | rfl) ?_
    | refine g_skT ?_
    | refine g_skF ?_
    | refine g_goT (by simp only [go_sem, Nat.reduceEqDiff, Nat.reduceAdd, Nat.reduceLeDiff]; first | done | rfl) ?_
    | refine g_goF (by simp only [go_sem, Nat.reduceEqDiff, Nat.reduceAdd, Nat.reduceLeDiff]; first | done | rfl) ?_
    | refine w_condT (by simp only [go_sem, Nat.reduceEqDiff, Nat.reduceAdd, Nat.reduceLeDiff]; first | done | rfl) ?_
    | refine w_condF (by simp only [go_sem, Nat.reduceEqDiff, Nat.reduceAdd, Nat.reduceLeDiff]; first | done | rfl) ?_
    | refine w_skip ?_
    | refine w_exit ?_
    | refine w_ret ?_
    )
    exact ⟨.inr rfl, by simp only [go_sem, Nat.reduceEqDiff, Nat.reduceAdd, Nat.reduceLeDiff, retOf, resOf]⟩
  · refine ⟨?_, ?_, ?_⟩
    · simp only [go_sem, Nat.reduceEqDiff, Nat.reduceAdd, Nat.reduceLeDiff]
    · simp only [go_sem, Nat.reduceEqDiff, Nat.reduceAdd, Nat.reduceLeDiff]
    · simp only [go_sem, Nat.reduceEqDiff, Nat.reduceAdd, Nat.reduceLeDiff]
      have h0 : overL [] over = over := by simp [overL]
      rw [h0]
      exact hg.mono (by intro o ho; simp at ho ⊢; omega)
  · simp only [go_sem, Nat.reduceEqDiff, Nat.reduceAdd, Nat.reduceLeDiff]
  · simp only [go_sem, Nat.reduceEqDiff, Nat.reduceAdd, Nat.reduceLeDiff, hll]

end
end Go.Proofs.YtjijlmfhnkipmaaDoorPv
