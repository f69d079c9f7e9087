/-
Own texts of the proof, merged: part 2.
-/
import Derived.Test.YtemoboghbdcjkaaDoorPkStoreTearsA
import Derived.Test.YtemoboghbdcjkaaDoorPvPe
import Derived.Test.YtemoboghbdcjkaaDoorPvP
namespace Go.Proofs.YtemoboghbdcjkaaDoorPv
open Go
set_option linter.unusedSimpArgs false
set_option linter.unusedVariables false
set_option maxHeartbeats 4000000
set_option maxRecDepth 8000
section
def lja : List (Nat × Def) := [(268, .prim (cloneF 3 48)), (278, .prim (delF 3)), (281, .prim (insF 3 48))]
def ljb : List (Nat × Def) := [(153, .prim cmpF)]

end
section
attribute [local go_sem ↓] e_mv e_pick e_bin e_eqs e_beq e_un e_cvi e_str e_s2b e_b2s e_box e_build e_bsl e_ld e_st e_nck e_mkf e_slcS e_slcL e_fa e_fld e_ia e_iaa e_ix e_ixa e_ext e_lenS e_lenL e_mnmx e_app e_appb e_bbx e_msl e_clr e_call e_callv e_icall e_slcA e_mkm e_mput e_mget e_mlen e_mdel pa_t pa_c pa_f slcSP_str hiOf_some hiOf_none loOf_some loOf_none set_eq set_ne
attribute [local go_sem] pv pv1 simple frOf_0 frOf_1 frOf_2 frOf_3 frOf_4 frOf_5 ne_eq not_false_eq_true if_true Bool.false_eq_true if_false pbin punary Option.map_some Option.bind_some pick_and pick_or opt_true Bool.true_and Bool.and_self Bool.and_true Bool.true_or Bool.false_or Bool.not_true Bool.not_false callE pcall_eq List.map_cons List.map_nil List.append_nil List.nil_append List.cons_append mapM_cons' mapM_nil' dep_eq fz_sc fz_sl fz_em fz_fn fz_fp fz_agg fz_tu fz_bx fz_ob Nat.lt_irrefl Nat.zero_lt_one Nat.lt_add_one flat clL cl Bool.or_true okc_sc okc_em okc_sl okc_ob okc_bx okc_fp okc_fn okc_agg okc_ifc cells_agg cells_sc cells_sl cells_em cells_ob cells_fn cells_bx cells_fp List.length_cons List.length_nil Nat.zero_add and_self true_and and_true new_m new_c put_m put_c nil_m nil_c nil_mm new_mm put_mm newM_m newM_c newM_mm putM_m putM_c putM_mm mkeyV_1 mkeyV_2 mapAt_eq deref List.getElem?_cons_zero List.getElem?_cons_succ List.drop_zero List.drop_succ_cons List.take_succ_cons List.take_zero Nat.le_refl false_and and_false decide_true decide_false lenP_em lenP_nil lenP_sl lenP_ob Int.ofNat_zero splice fillP fillE List.modify_zero_cons List.replicate_succ List.replicate_zero List.set_cons_zero List.drop_zero ba_data ba_size ba_toList ba_extract ba_append List.toList_toArray
def d265 : Def := (.code 1 [.tmp 2] (.seq (.rg false [⟨.some 2, .none, .mv (.c (.bool false))⟩]) (.seq (.rg false [⟨.some 3, .none, .mv (.t 0)⟩, ⟨.some 4, .none, .build (.agg #[.string ⟨#[]⟩, .slice .none 0 0, .slice .none 0 0]) [(0, (1, .t 3))]⟩, ⟨.some 5, .none, .bsl 3 (.agg #[.string ⟨#[]⟩, .slice .none 0 0, .slice .none 0 0]) 1 [(0, .t 4)]⟩, ⟨.some 6, .none, .call 9 .pure [.t 5]⟩, ⟨.some 2, .none, .mv (.t 6)⟩]) .ret)))
def d142 : Def := (.code 2 [.tmp 4] (.seq (.rg false [⟨.some 4, .none, .mv (.c (.int .i64 0))⟩]) (.seq (.rg false [⟨.some 5, .none, .mv (.t 0)⟩, ⟨.some 6, .none, .mv (.t 1)⟩, ⟨.some 7, .none, .call 153 .pure [.t 5, .t 6]⟩, ⟨.some 4, .none, .mv (.t 7)⟩]) .ret)))
def d276 : Def := (.code 2 [.tmp 4] (.seq (.rg false [⟨.some 2, .none, .box (.t 0)⟩, ⟨.some 4, .none, .mv (.c (.int .i64 0))⟩]) (.seq (.rg false [⟨.some 5, .none, .fa 0 (.t 2)⟩, ⟨.some 6, .none, .ld .none (.t 5)⟩, ⟨.some 7, .none, .mv (.t 1)⟩, ⟨.some 8, .none, .call 142 .pure [.t 6, .t 7]⟩, ⟨.some 4, .none, .mv (.t 8)⟩]) .ret)))
def d266 : Def := (.code 2 [.tmp 4, .tmp 5] (.seq (.rg false [⟨.some 4, .none, .mv (.c (.int .i64 0))⟩, ⟨.some 5, .none, .mv (.c (.bool false))⟩]) (.seq (.rg false [⟨.some 6, .none, .mv (.t 0)⟩, ⟨.some 7, .none, .mv (.t 1)⟩, ⟨.some 8, .none, .call 275 .pure [.t 6, .t 7, .f 276]⟩, ⟨.some 9, .none, .ext (.t 8) 0⟩, ⟨.some 10, .none, .ext (.t 8) 1⟩, ⟨.some 4, .none, .mv (.t 9)⟩, ⟨.some 5, .none, .mv (.t 10)⟩]) .ret)))
def d257 : Def := (.code 1 [.tmp 2] (.seq (.rg false [⟨.some 1, .none, .box (.t 0)⟩, ⟨.some 2, .none, .mv (.c (.bool false))⟩]) (.seq (.seq (.rg false [⟨.some 5, .none, .fa 0 (.t 1)⟩, ⟨.some 6, .none, .ld .none (.t 5)⟩, ⟨.some 7, .none, .lenL (.t 6)⟩, ⟨.some 8, .none, .mv (.c (.int .i64 0))⟩]) (.block 0 (.loop (.seq (.rg false [⟨.some 9, .none, .bin .lss (.t 8) (.t 7)⟩]) (.seq (.cond (.t 9) .skip (.exit 0)) (.seq (.block 1 (.seq (.rg false [⟨.some 10, .none, .mv (.t 8)⟩, ⟨.some 11, .none, .ia 3 (.t 6) (.t 8)⟩, ⟨.some 12, .none, .ld (.some 3) (.t 11)⟩, ⟨.some 4, .none, .box (.c (.agg #[.string ⟨#[]⟩, .string ⟨#[]⟩, .string ⟨#[]⟩]))⟩, ⟨.some 3, .none, .mv (.t 10)⟩, ⟨.none, .none, .st 3 (.t 4) (.t 12)⟩]) (.seq (.rg true [⟨.some 13, .none, .fa 0 (.t 4)⟩, ⟨.some 14, .none, .ld .none (.t 13)⟩, ⟨.some 15, .none, .call 265 .strict [.t 14]⟩, ⟨.some 16, .none, .un .not (.t 15)⟩, ⟨.some 17, .none, .mv (.t 16)⟩, ⟨.some 18, .some (17, false), .fa 1 (.t 4)⟩, ⟨.some 19, .some (17, false), .ld .none (.t 18)⟩, ⟨.some 20, .some (17, false), .lenS (.t 19)⟩, ⟨.some 21, .some (17, false), .fa 2 (.t 4)⟩, ⟨.some 22, .some (17, false), .ld .none (.t 21)⟩, ⟨.some 23, .some (17, false), .lenS (.t 22)⟩, ⟨.some 24, .some (17, false), .bin .add (.t 20) (.t 23)⟩, ⟨.some 25, .some (17, false), .bin .gtr (.t 24) (.c (.int .i64 16384))⟩, ⟨.some 26, .none, .pick (.t 17) (.c (.bool true)) (.t 25)⟩, ⟨.some 27, .none, .mv (.t 26)⟩, ⟨.some 28, .some (27, false), .mv (.t 3)⟩, ⟨.some 29, .some (27, false), .bin .gtr (.t 28) (.c (.int .i64 0))⟩, ⟨.some 30, .some (27, false), .mv (.t 29)⟩, ⟨.some 31, .some (30, true), .fa 0 (.t 1)⟩, ⟨.some 32, .some (30, true), .ld .none (.t 31)⟩, ⟨.some 33, .some (30, true), .mv (.t 3)⟩, ⟨.some 34, .some (30, true), .bin .sub (.t 33) (.c (.int .i64 1))⟩, ⟨.some 35, .some (30, true), .ia 3 (.t 32) (.t 34)⟩, ⟨.some 36, .some (30, true), .fa 0 (.t 35)⟩, ⟨.some 37, .some (30, true), .ld .none (.t 36)⟩, ⟨.some 38, .some (30, true), .fa 0 (.t 4)⟩, ⟨.some 39, .some (30, true), .ld .none (.t 38)⟩, ⟨.some 40, .some (30, true), .bin .geq (.t 37) (.t 39)⟩, ⟨.some 41, .some (27, false), .pick (.t 30) (.t 40) (.c (.bool false))⟩, ⟨.some 42, .none, .pick (.t 27) (.c (.bool true)) (.t 41)⟩]) (.cond (.t 42) (.seq (.rg false [⟨.some 2, .none, .mv (.c (.bool false))⟩]) .ret) .skip)))) (.rg false [⟨.some 43, .none, .bin .add (.t 8) (.c (.int .i64 1))⟩, ⟨.some 8, .none, .mv (.t 43)⟩]))))))) (.seq (.rg false [⟨.some 44, .none, .fa 0 (.t 1)⟩, ⟨.some 45, .none, .ld .none (.t 44)⟩, ⟨.some 46, .none, .lenL (.t 45)⟩, ⟨.some 47, .none, .bin .leq (.t 46) (.c (.int .i64 16))⟩, ⟨.some 2, .none, .mv (.t 47)⟩]) .ret))))
def ljc : List (Nat × Def) := [(265, d265)]
def ljd : List (Nat × Def) := [(142, d142), (276, d276), (275, dBsF 3 (some 3)), (266, d266)]
def lje : List (Nat × Def) := [(257, d257)]
def fl (f : Fl) : PV := .agg [txt f.n, txt f.s, txt f.t]
def fls (l : List Fl) : List PV := l.map fl
structure Fl.Sm (f : Fl) : Prop where
  n : f.n.length ≤ 4000000000
  s : f.s.length ≤ 4000000000
  t : f.t.length ≤ 4000000000
theorem fls_len (l : List Fl) : (fls l).length = l.length := by simp [fls]
theorem fls_at {l : List Fl} {i : Nat} {f : Fl} (h : l[i]? = some f) : (fls l)[i]? = some (fl f) := by simp [fls, h]
theorem fls_elems (l : List Fl) : Elems 3 (some 3) (fls l) := fun i e h => by
  simp only [fls, List.getElem?_map] at h
  obtain ⟨d, _, rfl⟩ := Option.map_eq_some_iff.1 h
  exact ⟨rfl, rfl⟩
theorem fl_fz (σ : St) (n : Nat) (f : Fl) : fz σ (n + 2) (fl f) = some (fl f) := rfl
theorem fls_fz (σ : St) (d : Nat) (l : List Fl) : (fls l).mapM (fz σ (d + 2)) = some (fls l) := by
  induction l with
  | nil => rfl
  | cons a l ih =>
    simp only [fls, List.map_cons] at ih ⊢
    rw [mapM_cons', fl_fz, Option.bind_some, ih]; rfl
theorem fls_all (l : List Fl) : ((fls l).all fun x => okc x && (cellsOf x).length == 3) = true := by
  rw [List.all_eq_true]
  intro x hx
  simp only [fls, List.mem_map] at hx
  obtain ⟨f, _, rfl⟩ := hx
  rfl
def okS (l : List Fl) (i : Nat) : Bool := wordD (l.getD i default).n && decide ((l.getD i default).s.length + (l.getD i default).t.length ≤ 16384) && (decide (i = 0) || Op.bytesLess (l.getD (i - 1) default).n (l.getD i default).n)
def rightS (l : List Fl) : Bool := (List.range l.length).all (okS l) && decide (l.length ≤ 16)
theorem rightS_iff {l : List Fl} : rightS l = true ↔ Srt l ∧ (∀ f ∈ l, wordD f.n = true ∧ f.s.length + f.t.length ≤ 16384) ∧ l.length ≤ 16 := by
  unfold rightS
  simp only [Bool.and_eq_true, List.all_eq_true, List.mem_range, decide_eq_true_eq]
  constructor
  · rintro ⟨h1, h2⟩
    have hok : ∀ (i : Nat) (hi : i < l.length), wordD l[i].n = true ∧ l[i].s.length + l[i].t.length ≤ 16384 ∧ (i = 0 ∨ Op.bytesLess (l.getD (i - 1) default).n l[i].n = true) := fun i hi => by
      have := h1 i hi
      simp only [okS, Bool.and_eq_true, Bool.or_eq_true, decide_eq_true_eq, List.getD_eq_getElem?_getD, List.getElem?_eq_getElem hi, Option.getD_some] at this
      rw [List.getD_eq_getElem?_getD]
      exact ⟨this.1.1, this.1.2, this.2⟩
    refine ⟨?_, fun f hf => ?_, h2⟩
    · have hstep : ∀ (i : Nat) (hi : i + 1 < l.length), Op.bytesLess l[i].n l[i + 1].n = true := fun i hi => by
        rcases (hok (i + 1) hi).2.2 with h | h
        · omega
        · rw [List.getD_eq_getElem?_getD, show i + 1 - 1 = i by omega, List.getElem?_eq_getElem (by omega)] at h
          exact h
      refine List.pairwise_iff_getElem.2 fun i j hi hj hij => ?_
      obtain ⟨d, rfl⟩ : ∃ d, j = i + 1 + d := ⟨j - i - 1, by omega⟩
      clear hij
      induction d with
      | zero => exact hstep i hj
      | succ d ih => exact bl_trans (ih (by omega)) (hstep (i + 1 + d) hj)
    · obtain ⟨i, hi, rfl⟩ := List.getElem_of_mem hf
      exact ⟨(hok i hi).1, (hok i hi).2.1⟩
  · rintro ⟨h1, h2, h3⟩
    refine ⟨fun i hi => ?_, h3⟩
    simp only [okS, Bool.and_eq_true, Bool.or_eq_true, decide_eq_true_eq, List.getD_eq_getElem?_getD, List.getElem?_eq_getElem hi, Option.getD_some]
    refine ⟨h2 _ (List.getElem_mem hi), ?_⟩
    by_cases h0 : i = 0
    · exact .inl h0
    · rw [List.getElem?_eq_getElem (show i - 1 < l.length by omega), Option.getD_some]
      exact .inr (List.pairwise_iff_getElem.1 h1 (i - 1) i (by omega) hi (by omega))
section
variable {env : Nat → Option Def} {fr : Fr} {σ σ' σ'' : St} {K : Fr → St → Prop} {Q : X → Fr → St → Prop} {p : PV} {bs : List UInt8}
theorem a265 (A : Has law env) (D : Has lda env) (B : Has ldb env) (C : Has ldc env) (E : Has ljc env) {s : List UInt8} (hs : s.length ≤ 4000000000) : AV env 265 [txt s] = some (.sc (.bool (wordD s))) := by
  have h9 := a9 A D B C (l := [⟨s, [], []⟩]) ⟨by simp, fun d hd => by
    simp only [List.mem_singleton] at hd
    subst hd
    exact ⟨hs, ⟨by simp, fun k hk => by cases hk⟩, ⟨by simp, fun k hk => by cases hk⟩⟩⟩
  have e : rightD [⟨s, [], []⟩] = wordD s := by
    simp [rightD, mayD, keysOk]
  rw [e] at h9
  simp only [dfs, List.map_cons, List.map_nil, df, txts] at h9
  refine AV_wp (E (265, d265) (by simp [ljc])) rfl ?_
  (repeat' first
    | refine w_seq ?_ | refine w_rg ?_ | refine wo_nil ?_ | refine g_skU ?_ | refine g_skT ?_ | refine g_skF ?_
    | ((first | apply s_plain | apply s_void | apply s_guard | apply g_goT | apply g_goF); · simp only [go_sem, Nat.reduceEqDiff, Nat.reduceAdd, Nat.reduceLeDiff, h9]; (first | done | rfl))
    | ((first | apply g_T | apply g_F | apply g_gT | apply g_gF); · intro q1_; (first | intro q2_ | have q2_ := q1_); simp only [go_sem, Nat.reduceEqDiff, Nat.reduceAdd, Nat.reduceLeDiff, h9, q1_, q2_]; (first | done | rfl))
    | (apply w_condX; · simp only [go_sem, Nat.reduceEqDiff, Nat.reduceAdd, Nat.reduceLeDiff, h9]; (first | done | rfl)); (first | refine wcd_T ?_ | refine wcd_F ?_)
    | refine w_skip ?_ | refine w_exit ?_ | refine w_ret ?_
    | fail
    )
  exact ⟨by first | exact .inr rfl | exact .inr trivial | exact .inl rfl, by simp only [go_sem, Nat.reduceEqDiff, Nat.reduceAdd, Nat.reduceLeDiff, retOf, resOf]; first | done | rfl⟩
theorem h_a142 (D : Has ljd env) (O : Has ljb env) (a b : List UInt8) : AV env 142 [txt a, txt b] = some (.sc (.int .i64 (Lib.compareBytes a b))) := by
  have h : AV env 153 [txt a, txt b] = some (.sc (.int .i64 (Lib.compareBytes a b))) := by
    have h := O (153, .prim cmpF) (by simp [ljb])
    refine AV_of (σ := St.nil) (r := .sc (.int .i64 (Lib.compareBytes a b))) ?_ rfl
    exact EV_of (n := 1) (by simp only [evF, h]; rfl)
  refine AV_wp (D (142, d142) (by simp [ljd])) rfl ?_
  (repeat' first
    | refine w_seq ?_ | refine w_rg ?_ | refine wo_nil ?_ | refine g_skU ?_ | refine g_skT ?_ | refine g_skF ?_
    | ((first | apply s_plain | apply s_void | apply s_guard | apply g_goT | apply g_goF); · simp only [go_sem, Nat.reduceEqDiff, Nat.reduceAdd, Nat.reduceLeDiff, h]; (first | done | rfl))
    | ((first | apply g_T | apply g_F | apply g_gT | apply g_gF); · intro q1_; (first | intro q2_ | have q2_ := q1_); simp only [go_sem, Nat.reduceEqDiff, Nat.reduceAdd, Nat.reduceLeDiff, h, q1_, q2_]; (first | done | rfl))
    | (apply w_condX; · simp only [go_sem, Nat.reduceEqDiff, Nat.reduceAdd, Nat.reduceLeDiff, h]; (first | done | rfl)); (first | refine wcd_T ?_ | refine wcd_F ?_)
    | refine w_skip ?_ | refine w_exit ?_ | refine w_ret ?_
    | fail
    )
  exact ⟨by first | exact .inr rfl | exact .inr trivial | exact .inl rfl, by simp only [go_sem, Nat.reduceEqDiff, Nat.reduceAdd, Nat.reduceLeDiff, retOf, resOf]; first | done | rfl⟩
theorem a276 (D : Has ljd env) (O : Has ljb env) (f : Fl) (n : List UInt8) : AV env 276 [fl f, txt n] = some (.sc (.int .i64 (Lib.compareBytes f.n n))) := by
  have h := h_a142 D O f.n n
  refine AV_wp (D (276, d276) (by simp [ljd])) rfl ?_
  unfold fl
  (repeat' first
    | refine w_seq ?_ | refine w_rg ?_ | refine wo_nil ?_ | refine g_skU ?_ | refine g_skT ?_ | refine g_skF ?_
    | ((first | apply s_plain | apply s_void | apply s_guard | apply g_goT | apply g_goF); · simp only [go_sem, Nat.reduceEqDiff, Nat.reduceAdd, Nat.reduceLeDiff, h]; (first | done | rfl))
    | ((first | apply g_T | apply g_F | apply g_gT | apply g_gF); · intro q1_; (first | intro q2_ | have q2_ := q1_); simp only [go_sem, Nat.reduceEqDiff, Nat.reduceAdd, Nat.reduceLeDiff, h, q1_, q2_]; (first | done | rfl))
    | (apply w_condX; · simp only [go_sem, Nat.reduceEqDiff, Nat.reduceAdd, Nat.reduceLeDiff, h]; (first | done | rfl)); (first | refine wcd_T ?_ | refine wcd_F ?_)
    | refine w_skip ?_ | refine w_exit ?_ | refine w_ret ?_
    | fail
    )
  exact ⟨by first | exact .inr rfl | exact .inr trivial | exact .inl rfl, by simp only [go_sem, Nat.reduceEqDiff, Nat.reduceAdd, Nat.reduceLeDiff, retOf, resOf]; first | done | rfl⟩
theorem cb_less : ∀ a b : List UInt8, decide (Lib.compareBytes a b < 0) = Op.bytesLess a b
  | [], [] => rfl
  | [], _ :: _ => rfl
  | _ :: _, [] => rfl
  | a :: x, b :: y => by
    have ih := cb_less x y
    simp only [Lib.compareBytes, Op.bytesLess]
    by_cases h1 : a < b
    · simp [h1]
    · by_cases h2 : b < a
      · have h3 : a ≠ b := fun h => by rw [h] at h2; exact UInt8.lt_irrefl _ h2
        simp [h1, h2, h3]
      · have h3 : a = b := by
          rw [UInt8.lt_iff_toNat_lt] at h1 h2
          exact UInt8.toNat_inj.1 (by omega)
        subst h3
        simp [UInt8.lt_irrefl, ← ih]
theorem cb_zero : ∀ a b : List UInt8, (Lib.compareBytes a b == 0) = decide (a = b)
  | [], [] => rfl
  | [], _ :: _ => by simp [Lib.compareBytes]
  | _ :: _, [] => by simp [Lib.compareBytes]
  | a :: x, b :: y => by
    have ih := cb_zero x y
    simp only [Lib.compareBytes]
    by_cases h1 : a < b
    · have h3 : a ≠ b := fun h => by rw [h] at h1; exact UInt8.lt_irrefl _ h1
      simp [h1, h3]
    · by_cases h2 : b < a
      · have h3 : a ≠ b := fun h => by rw [h] at h2; exact UInt8.lt_irrefl _ h2
        simp [h1, h2, h3]
      · have h3 : a = b := by
          rw [UInt8.lt_iff_toNat_lt] at h1 h2
          exact UInt8.toNat_inj.1 (by omega)
        subst h3
        simp [UInt8.lt_irrefl, ih]
theorem a266 (D : Has ljd env) (O : Has ljb env) {l : List Fl} (hs : Srt l) (hl : l.length ≤ 4000000000) (n : List UInt8) : AV env 266 [.sl (fls l), txt n] = some (.tu [.sc (.int .i64 (posF l n : Int)), .sc (.bool (hasF l n))]) := by
  have hbs := bsF_g (D (275, dBsF 3 (some 3)) (by simp [ljd])) (xs := fls l) (tg := txt n) (k := 276) (i0 := posF l n) (a := []) (b := []) (c := fun i => Lib.compareBytes (l.getD i default).n n) (by rw [fls_len]; omega) (fls_elems l)
    (fun i e h σ => by
      simp only [fls, List.getElem?_map] at h
      obtain ⟨d, _, rfl⟩ := Option.map_eq_some_iff.1 h
      rfl)
    (fun i e h => by
      simp only [fls, List.getElem?_map] at h
      obtain ⟨d, hd, rfl⟩ := Option.map_eq_some_iff.1 h
      rw [List.getD_eq_getElem?_getD, hd]
      exact a276 D O d n) (by rw [fls_len]; exact posF_le l n)
    (fun i hi => by
      have hil : i < l.length := Nat.lt_of_lt_of_le hi (posF_le l n)
      have := (pos_spec hs n).1 l[i] (by rw [List.mem_iff_getElem?]; exact ⟨i, by rw [List.getElem?_take, if_pos hi, List.getElem?_eq_getElem hil]⟩)
      rw [← cb_less, decide_eq_true_eq] at this
      rw [List.getD_eq_getElem?_getD, List.getElem?_eq_getElem hil]
      exact this)
    (fun i hi hil => by
      rw [fls_len] at hil
      have := (pos_spec hs n).2 l[i] (by rw [List.mem_iff_getElem?]; exact ⟨i - posF l n, by rw [List.getElem?_drop, show posF l n + (i - posF l n) = i by omega, List.getElem?_eq_getElem hil]⟩)
      rw [← cb_less, decide_eq_false_iff_not] at this
      rw [List.getD_eq_getElem?_getD, List.getElem?_eq_getElem hil]
      exact this)
  have e : (decide (posF l n < (fls l).length) && (Lib.compareBytes (l.getD (posF l n) default).n n == 0)) = hasF l n := by
    rw [pos_has hs, fls_len, cb_zero, List.getD_eq_getElem?_getD]
    by_cases h : posF l n < l.length
    · rw [List.getElem?_eq_getElem h, Option.getD_some]
      have : decide (posF l n < l.length) = true := by simpa using h
      rw [this, Bool.true_and]
      rw [Bool.eq_iff_iff]
      simp
    · rw [List.getElem?_eq_none (by omega)]
      have : decide (posF l n < l.length) = false := by simpa using h
      rw [this, Bool.false_and]
  rw [e] at hbs
  refine AV_wp (D (266, d266) (by simp [ljd])) rfl ?_
  (repeat' first
    | refine w_seq ?_ | refine w_rg ?_ | refine wo_nil ?_ | refine g_skU ?_ | refine g_skT ?_ | refine g_skF ?_
    | ((first | apply s_plain | apply s_void | apply s_guard | apply g_goT | apply g_goF); · simp only [go_sem, Nat.reduceEqDiff, Nat.reduceAdd, Nat.reduceLeDiff, hbs]; (first | done | rfl))
    | ((first | apply g_T | apply g_F | apply g_gT | apply g_gF); · intro q1_; (first | intro q2_ | have q2_ := q1_); simp only [go_sem, Nat.reduceEqDiff, Nat.reduceAdd, Nat.reduceLeDiff, hbs, q1_, q2_]; (first | done | rfl))
    | (apply w_condX; · simp only [go_sem, Nat.reduceEqDiff, Nat.reduceAdd, Nat.reduceLeDiff, hbs]; (first | done | rfl)); (first | refine wcd_T ?_ | refine wcd_F ?_)
    | refine w_skip ?_ | refine w_exit ?_ | refine w_ret ?_
    | fail
    )
  exact ⟨by first | exact .inr rfl | exact .inr trivial | exact .inl rfl, by simp only [go_sem, Nat.reduceEqDiff, Nat.reduceAdd, Nat.reduceLeDiff, retOf, resOf]; first | done | rfl⟩
end

def d277 : Def := (.code 2 [.tmp 4] (.seq (.rg false [⟨.some 3, .none, .box (.t 1)⟩, ⟨.some 4, .none, .mv (.c (.slice .none 0 0))⟩]) (.seq (.rg false [⟨.some 8, .none, .mv (.t 0)⟩, ⟨.some 9, .none, .fa 0 (.t 3)⟩, ⟨.some 10, .none, .ld .none (.t 9)⟩, ⟨.some 11, .none, .call 266 .pure [.t 8, .t 10]⟩, ⟨.some 7, .none, .mv (.t 11)⟩, ⟨.some 12, .none, .ext (.t 7) 0⟩, ⟨.some 13, .none, .ext (.t 7) 1⟩, ⟨.some 5, .none, .mv (.t 12)⟩, ⟨.some 6, .none, .mv (.t 13)⟩]) (.seq (.seq (.rg false [⟨.some 14, .none, .mv (.t 6)⟩]) (.cond (.t 14) (.seq (.rg false [⟨.some 15, .none, .mv (.t 0)⟩, ⟨.some 16, .none, .mv (.t 5)⟩, ⟨.some 17, .none, .ld (.some 3) (.t 3)⟩, ⟨.some 18, .none, .ia 3 (.t 15) (.t 16)⟩, ⟨.none, .none, .st 3 (.t 18) (.t 17)⟩]) (.seq (.rg false [⟨.some 19, .none, .mv (.t 0)⟩, ⟨.some 4, .none, .mv (.t 19)⟩]) .ret)) .skip)) (.seq (.rg false [⟨.some 20, .none, .mv (.t 0)⟩, ⟨.some 21, .none, .mv (.t 5)⟩, ⟨.some 22, .none, .ld (.some 3) (.t 3)⟩, ⟨.some 23, .none, .bsl 3 (.agg #[.string ⟨#[]⟩, .string ⟨#[]⟩, .string ⟨#[]⟩]) 1 [(0, .t 22)]⟩, ⟨.some 24, .none, .call 281 .opn [.t 20, .t 21, .t 23]⟩, ⟨.some 4, .none, .mv (.t 24)⟩]) .ret)))))
def ljf : List (Nat × Def) := [(277, d277)]
section
variable {env : Nat → Option Def} {fr : Fr} {σ σ' σ'' : St} {K : Fr → St → Prop} {Q : X → Fr → St → Prop} {p : PV} {bs : List UInt8}
theorem a257 (A : Has law env) (D : Has lda env) (B : Has ldb env) (C : Has ldc env) (E : Has ljc env) (F : Has lje env) {l : List Fl} (hl : l.length ≤ 4000000000) (hs : ∀ f ∈ l, f.Sm) : AV env 257 [.agg [.sl (fls l)]] = some (.sc (.bool (rightS l))) := by
  have hln := fls_len l
  refine AV_wp (F (257, d257) (by simp [lje])) rfl ?_
  (repeat' first
    | refine w_seq ?_ | refine w_rg ?_ | refine wo_nil ?_ | refine g_skU ?_ | refine g_skT ?_ | refine g_skF ?_
    | ((first | apply s_plain | apply s_void | apply s_guard | apply g_goT | apply g_goF); · simp only [go_sem, Nat.reduceEqDiff, Nat.reduceAdd, Nat.reduceLeDiff, hln]; (first | done | rfl))
    | ((first | apply g_T | apply g_F | apply g_gT | apply g_gF); · intro q1_; (first | intro q2_ | have q2_ := q1_); simp only [go_sem, Nat.reduceEqDiff, Nat.reduceAdd, Nat.reduceLeDiff, hln, q1_, q2_]; (first | done | rfl))
    | (apply w_condX; · simp only [go_sem, Nat.reduceEqDiff, Nat.reduceAdd, Nat.reduceLeDiff, hln]; (first | done | rfl)); (first | refine wcd_T ?_ | refine wcd_F ?_)
    | refine w_skip ?_ | refine w_exit ?_ | refine w_ret ?_
    | fail
    )
  refine w_block (w_rangeF l.length (by omega) (fun i fr σ => (∀ j, j < i → okS l j = true) ∧ σ.m 2000001 0 = some ⟨1, [.agg [.sl (fls l)]], true, true⟩) ⟨by decide, rfl, rfl⟩ (fun _ _ _ _ h => ⟨h, h, h⟩) ⟨fun j hj => by omega, by simp only [go_sem, Nat.reduceEqDiff, Nat.reduceAdd, Nat.reduceLeDiff]⟩ (by simp only [go_sem, Nat.reduceEqDiff, Nat.reduceAdd, Nat.reduceLeDiff]; first | done | rfl) (by simp only [go_sem, Nat.reduceEqDiff, Nat.reduceAdd, Nat.reduceLeDiff, hln]; first | done | rfl) ?_ ?_)
  · rintro i fr1 σ1 hi ⟨hok, g1⟩ hti hfr
    have f0_1 := hfr 1 rfl; have f0_6 := hfr 6 rfl; have f0_7 := hfr 7 rfl; try (simp only [go_sem, Nat.reduceEqDiff, Nat.reduceAdd, Nat.reduceLeDiff] at f0_1); try (simp only [go_sem, Nat.reduceEqDiff, Nat.reduceAdd, Nat.reduceLeDiff] at f0_6); try (simp only [go_sem, Nat.reduceEqDiff, Nat.reduceAdd, Nat.reduceLeDiff] at f0_7)
    have hx := List.getElem?_eq_getElem hi
    have hy := fls_at hx
    have hmm := hs _ (List.getElem_mem hi)
    have e1 : (0 : Int) ≤ (i : Int) ∧ (i : Int) < (l.length : Int) := by omega
    have h265 := a265 A D B C E (s := l[i].n) hmm.n
    have hgd : l.getD i default = l[i] := by rw [List.getD_eq_getElem?_getD, hx, Option.getD_some]
    have w1 : IntKind.i64.wrap ((l[i].s.length : Int) + (l[i].t.length : Int)) = ((l[i].s.length + l[i].t.length : Nat) : Int) := by have := hmm.s; have := hmm.t; rw [IntKind.wrap_i64]; omega
    have e2 : decide (((l[i].s.length + l[i].t.length : Nat) : Int) > 16384) = !decide (l[i].s.length + l[i].t.length ≤ 16384) := by
      by_cases h : l[i].s.length + l[i].t.length ≤ 16384
      · have h2 : ¬ ((l[i].s.length + l[i].t.length : Nat) : Int) > 16384 := by omega
        rw [decide_eq_true h, decide_eq_false h2]; rfl
      · have h2 : ((l[i].s.length + l[i].t.length : Nat) : Int) > 16384 := by omega
        rw [decide_eq_false h, decide_eq_true h2]; rfl
    have hkey : okS l i = (wordD l[i].n && decide (l[i].s.length + l[i].t.length ≤ 16384) && (decide (i = 0) || Op.bytesLess (l.getD (i - 1) default).n l[i].n)) := by
      unfold okS; rw [hgd]
    generalize l[i] = f at hx hy hmm h265 hgd w1 e2 hkey
    unfold fl at hy
    refine w_block ?_
    cases hb : (!wordD f.n || !decide (f.s.length + f.t.length ≤ 16384)) with
    | true =>
      have hno : okS l i = false := by
        rw [hkey]
        cases h1 : wordD f.n <;> cases h2 : decide (f.s.length + f.t.length ≤ 16384) <;> simp [h1, h2] at hb ⊢
      have hall : rightS l = false := by
        have : (List.range l.length).all (okS l) = false := all_hit hi hno
        unfold rightS
        rw [this]; rfl
      (repeat' first
    | refine w_seq ?_ | refine w_rg ?_ | refine wo_nil ?_ | refine g_skU ?_ | refine g_skT ?_ | refine g_skF ?_
    | ((first | apply s_plain | apply s_void | apply s_guard | apply g_goT | apply g_goF); · simp only [go_sem, Nat.reduceEqDiff, Nat.reduceAdd, Nat.reduceLeDiff, f0_1, f0_6, f0_7, hti, e1, hln, Int.toNat_natCast, hy, List.set_cons_succ, h265, List.size_toArray, w1, e2, hb, g1]; (first | done | rfl))
    | ((first | apply g_T | apply g_F | apply g_gT | apply g_gF); · intro q1_; (first | intro q2_ | have q2_ := q1_); simp only [go_sem, Nat.reduceEqDiff, Nat.reduceAdd, Nat.reduceLeDiff, f0_1, f0_6, f0_7, hti, e1, hln, Int.toNat_natCast, hy, List.set_cons_succ, h265, List.size_toArray, w1, e2, hb, g1, q1_, q2_]; (first | done | rfl))
    | (apply w_condX; · simp only [go_sem, Nat.reduceEqDiff, Nat.reduceAdd, Nat.reduceLeDiff, f0_1, f0_6, f0_7, hti, e1, hln, Int.toNat_natCast, hy, List.set_cons_succ, h265, List.size_toArray, w1, e2, hb, g1]; (first | done | rfl)); (first | refine wcd_T ?_ | refine wcd_F ?_)
    | refine w_skip ?_ | refine w_exit ?_ | refine w_ret ?_
    | fail
    )
      exact ⟨by first | exact .inr rfl | exact .inr trivial | exact .inl rfl, by simp only [go_sem, Nat.reduceEqDiff, Nat.reduceAdd, Nat.reduceLeDiff, retOf, resOf, hall]; first | done | rfl⟩
    | false =>
      have hb' : (wordD f.n && decide (f.s.length + f.t.length ≤ 16384)) = true := by
        cases h1 : wordD f.n <;> cases h2 : decide (f.s.length + f.t.length ≤ 16384) <;> simp [h1, h2] at hb ⊢
      rw [hb', Bool.true_and] at hkey
      by_cases h0 : i = 0
      · have d0 : decide ((i : Int) > 0) = false := by simp; omega
        (repeat' first
    | refine w_seq ?_ | refine w_rg ?_ | refine wo_nil ?_ | refine g_skU ?_ | refine g_skT ?_ | refine g_skF ?_
    | ((first | apply s_plain | apply s_void | apply s_guard | apply g_goT | apply g_goF); · simp only [go_sem, Nat.reduceEqDiff, Nat.reduceAdd, Nat.reduceLeDiff, f0_1, f0_6, f0_7, hti, e1, hln, Int.toNat_natCast, hy, List.set_cons_succ, h265, List.size_toArray, w1, e2, hb, d0, g1]; (first | done | rfl))
    | ((first | apply g_T | apply g_F | apply g_gT | apply g_gF); · intro q1_; (first | intro q2_ | have q2_ := q1_); simp only [go_sem, Nat.reduceEqDiff, Nat.reduceAdd, Nat.reduceLeDiff, f0_1, f0_6, f0_7, hti, e1, hln, Int.toNat_natCast, hy, List.set_cons_succ, h265, List.size_toArray, w1, e2, hb, d0, g1, q1_, q2_]; (first | done | rfl))
    | (apply w_condX; · simp only [go_sem, Nat.reduceEqDiff, Nat.reduceAdd, Nat.reduceLeDiff, f0_1, f0_6, f0_7, hti, e1, hln, Int.toNat_natCast, hy, List.set_cons_succ, h265, List.size_toArray, w1, e2, hb, d0, g1]; (first | done | rfl)); (first | refine wcd_T ?_ | refine wcd_F ?_)
    | refine w_skip ?_ | refine w_exit ?_ | refine w_ret ?_
    | fail
    )
        refine ⟨fun j hj => ?_, by simp only [go_sem, Nat.reduceEqDiff, Nat.reduceAdd, Nat.reduceLeDiff, g1]⟩
        rcases Nat.lt_succ_iff_lt_or_eq.1 hj with h | h
        · exact hok j h
        · rw [h, hkey]; simp [h0]
      · have d0 : decide ((i : Int) > 0) = true := by simp; omega
        have w2 : IntKind.i64.wrap ((i : Int) - 1) = ((i - 1 : Nat) : Int) := by rw [IntKind.wrap_i64]; omega
        have hx1 := List.getElem?_eq_getElem (show i - 1 < l.length by omega)
        have hy1 := fls_at hx1
        have e3 : (0 : Int) ≤ ((i - 1 : Nat) : Int) ∧ ((i - 1 : Nat) : Int) < (l.length : Int) := by omega
        have hgd1 : l.getD (i - 1) default = l[i - 1] := by rw [List.getD_eq_getElem?_getD, hx1, Option.getD_some]
        rw [hgd1, show decide (i = 0) = false by simpa using h0, Bool.false_or] at hkey
        generalize l[i - 1] = f1 at hx1 hy1 hgd1 hkey
        unfold fl at hy1
        cases hlt : Op.bytesLess f1.n f.n with
        | true =>
          (repeat' first
    | refine w_seq ?_ | refine w_rg ?_ | refine wo_nil ?_ | refine g_skU ?_ | refine g_skT ?_ | refine g_skF ?_
    | ((first | apply s_plain | apply s_void | apply s_guard | apply g_goT | apply g_goF); · simp only [go_sem, Nat.reduceEqDiff, Nat.reduceAdd, Nat.reduceLeDiff, f0_1, f0_6, f0_7, hti, e1, e3, hln, Int.toNat_natCast, hy, hy1, List.set_cons_succ, h265, List.size_toArray, w1, w2, e2, hb, d0, g1, hlt]; (first | done | rfl))
    | ((first | apply g_T | apply g_F | apply g_gT | apply g_gF); · intro q1_; (first | intro q2_ | have q2_ := q1_); simp only [go_sem, Nat.reduceEqDiff, Nat.reduceAdd, Nat.reduceLeDiff, f0_1, f0_6, f0_7, hti, e1, e3, hln, Int.toNat_natCast, hy, hy1, List.set_cons_succ, h265, List.size_toArray, w1, w2, e2, hb, d0, g1, hlt, q1_, q2_]; (first | done | rfl))
    | (apply w_condX; · simp only [go_sem, Nat.reduceEqDiff, Nat.reduceAdd, Nat.reduceLeDiff, f0_1, f0_6, f0_7, hti, e1, e3, hln, Int.toNat_natCast, hy, hy1, List.set_cons_succ, h265, List.size_toArray, w1, w2, e2, hb, d0, g1, hlt]; (first | done | rfl)); (first | refine wcd_T ?_ | refine wcd_F ?_)
    | refine w_skip ?_ | refine w_exit ?_ | refine w_ret ?_
    | fail
    )
          refine ⟨fun j hj => ?_, by simp only [go_sem, Nat.reduceEqDiff, Nat.reduceAdd, Nat.reduceLeDiff, g1]⟩
          rcases Nat.lt_succ_iff_lt_or_eq.1 hj with h | h
          · exact hok j h
          · rw [h, hkey, hlt]
        | false =>
          have hall : rightS l = false := by
            have : (List.range l.length).all (okS l) = false := all_hit hi (by rw [hkey, hlt])
            unfold rightS
            rw [this]; rfl
          (repeat' first
    | refine w_seq ?_ | refine w_rg ?_ | refine wo_nil ?_ | refine g_skU ?_ | refine g_skT ?_ | refine g_skF ?_
    | ((first | apply s_plain | apply s_void | apply s_guard | apply g_goT | apply g_goF); · simp only [go_sem, Nat.reduceEqDiff, Nat.reduceAdd, Nat.reduceLeDiff, f0_1, f0_6, f0_7, hti, e1, e3, hln, Int.toNat_natCast, hy, hy1, List.set_cons_succ, h265, List.size_toArray, w1, w2, e2, hb, d0, g1, hlt]; (first | done | rfl))
    | ((first | apply g_T | apply g_F | apply g_gT | apply g_gF); · intro q1_; (first | intro q2_ | have q2_ := q1_); simp only [go_sem, Nat.reduceEqDiff, Nat.reduceAdd, Nat.reduceLeDiff, f0_1, f0_6, f0_7, hti, e1, e3, hln, Int.toNat_natCast, hy, hy1, List.set_cons_succ, h265, List.size_toArray, w1, w2, e2, hb, d0, g1, hlt, q1_, q2_]; (first | done | rfl))
    | (apply w_condX; · simp only [go_sem, Nat.reduceEqDiff, Nat.reduceAdd, Nat.reduceLeDiff, f0_1, f0_6, f0_7, hti, e1, e3, hln, Int.toNat_natCast, hy, hy1, List.set_cons_succ, h265, List.size_toArray, w1, w2, e2, hb, d0, g1, hlt]; (first | done | rfl)); (first | refine wcd_T ?_ | refine wcd_F ?_)
    | refine w_skip ?_ | refine w_exit ?_ | refine w_ret ?_
    | fail
    )
          exact ⟨by first | exact .inr rfl | exact .inr trivial | exact .inl rfl, by simp only [go_sem, Nat.reduceEqDiff, Nat.reduceAdd, Nat.reduceLeDiff, retOf, resOf, hall]; first | done | rfl⟩
  · rintro fr1 σ1 ⟨hok, g1⟩ hfr
    have e0_1 := hfr 1 rfl; try (simp only [go_sem, Nat.reduceEqDiff, Nat.reduceAdd, Nat.reduceLeDiff] at e0_1)
    try simp only [if_true]
    have hall : (List.range l.length).all (okS l) = true := by
      rw [List.all_eq_true]
      intro i hi
      exact hok i (by simpa using hi)
    have e3 : decide ((l.length : Int) ≤ 16) = decide (l.length ≤ 16) := by
      by_cases h : l.length ≤ 16
      · rw [decide_eq_true h, decide_eq_true (show (l.length : Int) ≤ 16 by omega)]
      · rw [decide_eq_false h, decide_eq_false (show ¬ (l.length : Int) ≤ 16 by omega)]
    (repeat' first
    | refine w_seq ?_ | refine w_rg ?_ | refine wo_nil ?_ | refine g_skU ?_ | refine g_skT ?_ | refine g_skF ?_
    | ((first | apply s_plain | apply s_void | apply s_guard | apply g_goT | apply g_goF); · simp only [go_sem, Nat.reduceEqDiff, Nat.reduceAdd, Nat.reduceLeDiff, e0_1, g1, hln, e3]; (first | done | rfl))
    | ((first | apply g_T | apply g_F | apply g_gT | apply g_gF); · intro q1_; (first | intro q2_ | have q2_ := q1_); simp only [go_sem, Nat.reduceEqDiff, Nat.reduceAdd, Nat.reduceLeDiff, e0_1, g1, hln, e3, q1_, q2_]; (first | done | rfl))
    | (apply w_condX; · simp only [go_sem, Nat.reduceEqDiff, Nat.reduceAdd, Nat.reduceLeDiff, e0_1, g1, hln, e3]; (first | done | rfl)); (first | refine wcd_T ?_ | refine wcd_F ?_)
    | refine w_skip ?_ | refine w_exit ?_ | refine w_ret ?_
    | fail
    )
    exact ⟨by first | exact .inr rfl | exact .inr trivial | exact .inl rfl, by simp only [go_sem, Nat.reduceEqDiff, Nat.reduceAdd, Nat.reduceLeDiff, retOf, resOf, rightS, hall]; first | done | rfl⟩
def RowW (σ : St) (es : Nat) (p : PV) (xs : List PV) : Prop := (p = .em ∧ xs = []) ∨ ∃ o g, p = .ob o g es 0 xs.length ∧ σ.m o g = some ⟨es, xs, true, true⟩ ∧ o < 2000000
theorem RowW.fz {es : Nat} {xs : List PV} (h : RowW σ es p xs) {d : Nat} (hx : xs.mapM (fz σ d) = some xs) : fz σ (d + 1) p = some (.sl xs) := by
  rcases h with ⟨rfl, rfl⟩ | ⟨o, g, rfl, h2, _⟩
  · rfl
  · rw [fz_ob, h2]
    simp [hx]
theorem RowW.lenP {es : Nat} {xs : List PV} (h : RowW σ es p xs) : lenP p = some xs.length := by
  rcases h with ⟨rfl, rfl⟩ | ⟨o, g, rfl, _⟩ <;> rfl
theorem RowW.ok {es : Nat} {xs : List PV} (h : RowW σ es p xs) : cellsOf p = [p] ∧ okc p = true := by
  rcases h with ⟨rfl, rfl⟩ | ⟨o, g, rfl, _⟩ <;> exact ⟨rfl, rfl⟩
theorem RowW.new {es : Nat} {xs : List PV} (h : RowW σ es p xs) (hF : Fresh σ) (s : Nat) (y : Obj) : RowW (σ.new s y) es p xs := by
  rcases h with ⟨rfl, rfl⟩ | ⟨o, g, rfl, h2, h3⟩
  · exact .inl ⟨rfl, rfl⟩
  · refine .inr ⟨o, g, rfl, ?_, h3⟩
    simp only [new_m]
    rw [if_neg (fun h => by rw [h.1, h.2, hF.none] at h2; cases h2)]
    exact h2
theorem RowW.put {es : Nat} {xs : List PV} (h : RowW σ es p xs) {o g : Nat} (ho : 2000000 ≤ o) (y : Option Obj) : RowW (σ.put o g y) es p xs := by
  rcases h with ⟨rfl, rfl⟩ | ⟨o', g', rfl, h2, h3⟩
  · exact .inl ⟨rfl, rfl⟩
  · exact .inr ⟨o', g', rfl, by simp only [put_m]; rw [if_neg (fun h => by omega)]; exact h2, h3⟩
theorem RowW.keep {es : Nat} {xs : List PV} (h : RowW σ es p xs) (hm : ∀ o g, o < 2000000 → g < σ.c o → σ'.m o g = σ.m o g) (hF : Fresh σ) : RowW σ' es p xs := by
  rcases h with ⟨rfl, rfl⟩ | ⟨o', g', rfl, h2, h3⟩
  · exact .inl ⟨rfl, rfl⟩
  · exact .inr ⟨o', g', rfl, by rw [hm _ _ h3 (hF _ _ (by rw [h2]; rfl))]; exact h2, h3⟩
theorem e_ins {k es by_ : Nat} (hk : env k = some (.prim (insF es by_))) {q e : PV} {xs : List PV} {i o2 g2 : Nat} (hw : RowW σ es q xs) (hi : i ≤ xs.length) (h2 : σ.m o2 g2 = some ⟨es, [e], true, true⟩) (hne : ∀ o g, q = .ob o g es 0 xs.length → ¬ (o = o2 ∧ g = g2)) (hok : okc e = true) (hl : (cellsOf e).length = es) (hb : (xs.length + 1) * by_ ≤ 70368744177664) (hF : Fresh σ) :
    ∃ r σ', EV env k [q, .sc (.int .i64 (i : Int)), .ob o2 g2 es 0 1] σ = some (r, σ') ∧ RowW σ' es r (xs.take i ++ e :: xs.drop i) ∧ Kp (2000000 ≤ ·) σ σ' := by
  have hall : (([e] : List PV).all fun y => okc y && (cellsOf y).length == es) = true := by simp [hok, hl]
  rw [EV_prim hk]
  rcases hw with ⟨rfl, rfl⟩ | ⟨o, g, rfl, h3, h4⟩
  · refine ⟨.ob 25 (σ.c 25) es 0 1, σ.new 25 ⟨es, [e], true, true⟩, ?_, .inr ⟨25, σ.c 25, ?_, ?_, by decide⟩, (Kp.refl hF).new _ _⟩
    · have hi0 : i = 0 := by simpa using hi
      subst hi0
      simp only [insF, h2]
      rw [if_pos ⟨trivial, trivial, trivial, by simp, trivial, trivial, by simp, hall⟩]
      rw [if_pos ⟨rfl, by simpa using hb⟩]
    · simp
    · simp [new_m]
  · have hg := hF _ _ (show (σ.m o g).isSome = true by rw [h3]; rfl)
    refine ⟨.ob 25 (σ.c 25) es 0 (xs.length + 1), (σ.put o g none).new 25 ⟨es, xs.take i ++ ([e] ++ xs.drop i), true, true⟩, ?_, .inr ⟨25, σ.c 25, ?_, ?_, by decide⟩, ((Kp.refl hF).put h3 (.inl (by omega)) _).new _ _⟩
    · simp only [insF, h2]
      rw [if_pos ⟨trivial, trivial, trivial, by simp, trivial, trivial, by simp, hall⟩]
      simp only [h3]
      rw [if_pos ⟨⟨trivial, trivial, trivial, trivial, trivial, trivial⟩, by omega, by omega, hne o g rfl, by simpa using hb⟩]
      simp
    · congr 1
      simp only [List.length_append, List.length_take, List.length_cons, List.length_drop]
      omega
    · simp [new_m, put_c]
theorem e_del {k es : Nat} (hk : env k = some (.prim (delF es))) {q : PV} {xs : List PV} {i : Nat} (hw : RowW σ es q xs) (hi : i < xs.length) (hF : Fresh σ) :
    ∃ r σ', EV env k [q, .sc (.int .i64 (i : Int)), .sc (.int .i64 ((i + 1 : Nat) : Int))] σ = some (r, σ') ∧ RowW σ' es r (xs.take i ++ xs.drop (i + 1)) ∧ Kp (2000000 ≤ ·) σ σ' := by
  rw [EV_prim hk]
  rcases hw with ⟨rfl, rfl⟩ | ⟨o, g, rfl, h3, h4⟩
  · simp at hi
  · refine ⟨.ob 26 (σ.c 26) es 0 (i + (xs.length - (i + 1))), (σ.put o g none).new 26 ⟨es, xs.take i ++ xs.drop (i + 1), true, true⟩, ?_, .inr ⟨26, σ.c 26, ?_, ?_, by decide⟩, ((Kp.refl hF).put h3 (.inl (by omega)) _).new _ _⟩
    · simp only [delF, h3]
      rw [if_pos ⟨⟨trivial, trivial, trivial, trivial, trivial, trivial⟩, by omega, by omega, by omega⟩]
      simp
    · congr 1
      simp only [List.length_append, List.length_take, List.length_drop]
      omega
    · simp [new_m, put_c]
theorem a277 (J : Has lja env) (D : Has ljd env) (O : Has ljb env) (G : Has ljf env) {l : List Fl} {f : Fl} (hw : RowW σ 3 p (fls l)) (hs : Srt l) (hl : l.length ≤ 1000) (hF : Fresh σ) :
    ∃ q σ', EV env 277 [p, fl f] σ = some (q, σ') ∧ RowW σ' 3 q (fls (putF l f)) ∧ Kp (2000000 ≤ ·) σ σ' := by
  have h266 := a266 D O hs (by omega) f.n
  have hln := fls_len l
  have hle := posF_le l f.n
  obtain ⟨ok1, ok2⟩ := hw.ok
  refine EV_wp' (σ := σ) (R := fun q τ => RowW τ 3 q (fls (putF l f)) ∧ Kp (2000000 ≤ ·) σ τ) (G (277, d277) (by simp [ljf])) rfl ?_
  unfold fl
  have k1 := (Kp.refl (P := (2000000 ≤ ·)) hF).new 2000003 ⟨3, [.agg [txt f.n, txt f.s, txt f.t]], true, true⟩
  have hw1 := hw.new hF 2000003 ⟨3, [.agg [txt f.n, txt f.s, txt f.t]], true, true⟩
  have hz1 := hw1.fz (fls_fz _ 9 l)
  (repeat' first
    | refine w_seq ?_ | refine w_rg ?_ | refine wo_nil ?_ | refine g_skU ?_ | refine g_skT ?_ | refine g_skF ?_
    | ((first | apply s_plain | apply s_void | apply s_guard | apply g_goT | apply g_goF); · simp only [go_sem, Nat.reduceEqDiff, Nat.reduceAdd, Nat.reduceLeDiff, ok1, ok2, hz1, h266]; (first | done | rfl))
    | ((first | apply g_T | apply g_F | apply g_gT | apply g_gF); · intro q1_; (first | intro q2_ | have q2_ := q1_); simp only [go_sem, Nat.reduceEqDiff, Nat.reduceAdd, Nat.reduceLeDiff, ok1, ok2, hz1, h266, q1_, q2_]; (first | done | rfl))
    | fail
    )
  cases hh : hasF l f.n with
  | true =>
    obtain ⟨f0, q1, q2, q3⟩ := pos_at hs hh
    have hlt := (List.getElem?_eq_some_iff.1 q1).1
    rcases hw with ⟨rfl, hx⟩ | ⟨o, g, rfl, h3, h4⟩
    · have h0 : l.length = 0 := by rw [← hln, hx]; rfl
      omega
    · have e1 : (0 : Int) ≤ ((posF l f.n : Nat) : Int) ∧ ((posF l f.n : Nat) : Int) < ((fls l).length : Int) := by rw [hln]; omega
      have hne : ¬ (o = 2000003 ∧ g = σ.c 2000003) := fun h => by omega
      have hm1 : (σ.new 2000003 ⟨3, [.agg [txt f.n, txt f.s, txt f.t]], true, true⟩).m o g = some ⟨3, fls l, true, true⟩ := by simp only [new_m]; rw [if_neg hne]; exact h3
      have hlt' : posF l f.n < (fls l).length := by rw [hln]; exact hlt
      (repeat' first
    | refine w_seq ?_ | refine w_rg ?_ | refine wo_nil ?_ | refine g_skU ?_ | refine g_skT ?_ | refine g_skF ?_
    | ((first | apply s_plain | apply s_void | apply s_guard | apply g_goT | apply g_goF); · simp only [go_sem, Nat.reduceEqDiff, Nat.reduceAdd, Nat.reduceLeDiff, e1, Int.toNat_natCast, hm1, hlt', List.set_cons_succ]; (first | done | rfl))
    | ((first | apply g_T | apply g_F | apply g_gT | apply g_gF); · intro q1_; (first | intro q2_ | have q2_ := q1_); simp only [go_sem, Nat.reduceEqDiff, Nat.reduceAdd, Nat.reduceLeDiff, e1, Int.toNat_natCast, hm1, hlt', List.set_cons_succ, q1_, q2_]; (first | done | rfl))
    | (apply w_condX; · simp only [go_sem, Nat.reduceEqDiff, Nat.reduceAdd, Nat.reduceLeDiff, e1, Int.toNat_natCast, hm1, hlt', List.set_cons_succ]; (first | done | rfl)); (first | refine wcd_T ?_ | refine wcd_F ?_)
    | refine w_skip ?_ | refine w_exit ?_ | refine w_ret ?_
    | fail
    )
      have e : (fls l).modify (posF l f.n) (fun _ => PV.agg [txt f.n, txt f.s, txt f.t]) = fls (putF l f) := by
        rw [List.modify_eq_take_cons_drop hlt']
        unfold putF
        rw [hh, if_pos rfl]
        simp only [fls, List.map_append, List.map_cons, List.map_take, List.map_drop]
        rfl
      have el : (fls (putF l f)).length = (fls l).length := by rw [← e, List.length_modify]
      refine ⟨.inr rfl, .ob o g 3 0 (fls l).length, by simp only [go_sem, Nat.reduceEqDiff, Nat.reduceAdd, Nat.reduceLeDiff, retOf, resOf], .inr ⟨o, g, by rw [el], ?_, h4⟩, k1.put hm1 (.inl (by omega)) _⟩
      simp only [put_m]
      rw [if_pos ⟨trivial, trivial⟩, ← e]
  | false =>
    have e : (fls l).take (posF l f.n) ++ fl f :: (fls l).drop (posF l f.n) = fls (putF l f) := by
      unfold putF
      rw [hh, if_neg (by decide)]
      simp only [fls, List.map_append, List.map_cons, List.map_take, List.map_drop]
    (repeat' first
    | refine w_seq ?_ | refine w_rg ?_ | refine wo_nil ?_ | refine g_skU ?_ | refine g_skT ?_ | refine g_skF ?_
    | ((first | apply s_plain | apply s_void | apply s_guard | apply g_goT | apply g_goF); · simp only [go_sem, Nat.reduceEqDiff, Nat.reduceAdd, Nat.reduceLeDiff, ok1, ok2, List.set_cons_succ]; (first | done | rfl))
    | ((first | apply g_T | apply g_F | apply g_gT | apply g_gF); · intro q1_; (first | intro q2_ | have q2_ := q1_); simp only [go_sem, Nat.reduceEqDiff, Nat.reduceAdd, Nat.reduceLeDiff, ok1, ok2, List.set_cons_succ, q1_, q2_]; (first | done | rfl))
    | (apply w_condX; · simp only [go_sem, Nat.reduceEqDiff, Nat.reduceAdd, Nat.reduceLeDiff, ok1, ok2, List.set_cons_succ]; (first | done | rfl)); (first | refine wcd_T ?_ | refine wcd_F ?_)
    | refine w_skip ?_ | refine w_exit ?_ | refine w_ret ?_
    | fail
    )
    have k2 := k1.new 23 ⟨3, [.agg [txt f.n, txt f.s, txt f.t]], true, true⟩
    have hw2 := hw1.new k1.f 23 ⟨3, [.agg [txt f.n, txt f.s, txt f.t]], true, true⟩
    obtain ⟨r, σ2, h1, h2, h3⟩ := e_ins (J (281, .prim (insF 3 48)) (by simp [lja])) (e := fl f) (o2 := 23) (g2 := σ.c 23) hw2 (i := posF l f.n) (by rw [hln]; exact hle) (by simp [new_m, new_c, fl])
      (fun o g hq h => by
        rcases hw with ⟨rfl, _⟩ | ⟨o', g', rfl, h3, h4⟩
        · cases hq
        · simp only [PV.ob.injEq] at hq
          obtain ⟨rfl, rfl, _⟩ := hq
          rw [h.1, h.2, hF.none] at h3
          cases h3) rfl rfl (by rw [hln]; omega) k2.f
    refine s_plain (v := r) (σ' := σ2) (by simp only [go_sem, Nat.reduceEqDiff, Nat.reduceAdd, Nat.reduceLeDiff, List.set_cons_succ]; exact h1) ?_
    (repeat' first
    | refine w_seq ?_ | refine w_rg ?_ | refine wo_nil ?_ | refine g_skU ?_ | refine g_skT ?_ | refine g_skF ?_
    | ((first | apply s_plain | apply s_void | apply s_guard | apply g_goT | apply g_goF); · simp only [go_sem, Nat.reduceEqDiff, Nat.reduceAdd, Nat.reduceLeDiff]; (first | done | rfl))
    | ((first | apply g_T | apply g_F | apply g_gT | apply g_gF); · intro q1_; (first | intro q2_ | have q2_ := q1_); simp only [go_sem, Nat.reduceEqDiff, Nat.reduceAdd, Nat.reduceLeDiff, q1_, q2_]; (first | done | rfl))
    | (apply w_condX; · simp only [go_sem, Nat.reduceEqDiff, Nat.reduceAdd, Nat.reduceLeDiff]; (first | done | rfl)); (first | refine wcd_T ?_ | refine wcd_F ?_)
    | refine w_skip ?_ | refine w_exit ?_ | refine w_ret ?_
    | fail
    )
    exact ⟨.inr rfl, r, by simp only [go_sem, Nat.reduceEqDiff, Nat.reduceAdd, Nat.reduceLeDiff, retOf, resOf], by rw [← e]; exact h2, k2.trans h3⟩
end

def d267 : Def := (.code 4 [.tmp 8, .tmp 9] (.seq (.rg false [⟨.some 7, .none, .box (.t 3)⟩, ⟨.some 8, .none, .mv (.c (.slice .none 0 0))⟩, ⟨.some 9, .none, .mv (.c (.bool false))⟩]) (.seq (.rg false [⟨.some 11, .none, .fa 1 (.t 7)⟩, ⟨.some 12, .none, .ld .none (.t 11)⟩, ⟨.some 13, .none, .build (.agg #[.string ⟨#[]⟩, .string ⟨#[]⟩, .string ⟨#[]⟩]) [(0, (1, .t 12))]⟩, ⟨.some 10, .none, .box (.c (.agg #[.string ⟨#[]⟩, .string ⟨#[]⟩, .string ⟨#[]⟩]))⟩, ⟨.none, .none, .st 3 (.t 10) (.t 13)⟩]) (.seq (.seq (.rg false [⟨.some 14, .none, .mv (.t 2)⟩]) (.cond (.t 14) (.rg false [⟨.some 15, .none, .mv (.t 0)⟩, ⟨.some 16, .none, .mv (.t 1)⟩, ⟨.some 17, .none, .ia 3 (.t 15) (.t 16)⟩, ⟨.some 18, .none, .ld (.some 3) (.t 17)⟩, ⟨.none, .none, .st 3 (.t 10) (.t 18)⟩]) .skip)) (.seq (.seq (.rg false [⟨.some 19, .none, .fa 0 (.t 7)⟩, ⟨.some 20, .none, .ld .none (.t 19)⟩]) (.block 0 (.seq (.block 4 (.seq (.block 3 (.seq (.block 2 (.seq (.block 1 (.seq (.seq (.seq (.rg false [⟨.some 22, .none, .bin .eql (.t 20) (.c (.int .i64 1))⟩, ⟨.some 21, .none, .mv (.t 22)⟩]) (.cond (.t 21) (.exit 1) .skip)) (.seq (.seq (.rg false [⟨.some 24, .none, .bin .eql (.t 20) (.c (.int .i64 2))⟩, ⟨.some 23, .none, .mv (.t 24)⟩]) (.cond (.t 23) (.exit 2) .skip)) (.seq (.seq (.rg false [⟨.some 26, .none, .bin .eql (.t 20) (.c (.int .i64 3))⟩, ⟨.some 25, .none, .mv (.t 26)⟩]) (.cond (.t 25) (.exit 3) .skip)) (.seq (.rg false [⟨.some 28, .none, .bin .eql (.t 20) (.c (.int .i64 4))⟩, ⟨.some 27, .none, .mv (.t 28)⟩]) (.cond (.t 27) (.exit 4) .skip))))) (.exit 0))) (.seq (.seq (.rg false [⟨.some 29, .none, .fa 2 (.t 10)⟩, ⟨.some 30, .none, .ld .none (.t 29)⟩, ⟨.some 31, .none, .fa 2 (.t 7)⟩, ⟨.some 32, .none, .ld .none (.t 31)⟩, ⟨.some 33, .none, .bin .add (.t 30) (.t 32)⟩, ⟨.some 34, .none, .fa 2 (.t 10)⟩, ⟨.none, .none, .st 1 (.t 34) (.t 33)⟩]) (.rg false [⟨.some 35, .none, .mv (.t 0)⟩, ⟨.some 36, .none, .ld (.some 3) (.t 10)⟩, ⟨.some 37, .none, .call 277 .opn [.t 35, .t 36]⟩, ⟨.some 0, .none, .mv (.t 37)⟩])) (.exit 0)))) (.seq (.seq (.rg false [⟨.some 38, .none, .fa 1 (.t 10)⟩, ⟨.some 39, .none, .ld .none (.t 38)⟩, ⟨.some 40, .none, .fa 2 (.t 10)⟩, ⟨.some 41, .none, .ld .none (.t 40)⟩, ⟨.some 42, .none, .bin .add (.t 39) (.t 41)⟩, ⟨.some 43, .none, .fa 1 (.t 10)⟩, ⟨.none, .none, .st 1 (.t 43) (.t 42)⟩, ⟨.some 44, .none, .fa 2 (.t 10)⟩, ⟨.none, .none, .st 1 (.t 44) (.c (.string ⟨#[]⟩))⟩]) (.rg false [⟨.some 45, .none, .mv (.t 0)⟩, ⟨.some 46, .none, .ld (.some 3) (.t 10)⟩, ⟨.some 47, .none, .call 277 .opn [.t 45, .t 46]⟩, ⟨.some 0, .none, .mv (.t 47)⟩])) (.exit 0)))) (.rg false [⟨.some 48, .none, .fa 2 (.t 7)⟩, ⟨.some 49, .none, .ld .none (.t 48)⟩, ⟨.some 50, .none, .fa 0 (.t 10)⟩, ⟨.none, .none, .st 1 (.t 50) (.t 49)⟩]))) (.seq (.seq (.rg false [⟨.some 51, .none, .mv (.t 0)⟩, ⟨.some 52, .none, .mv (.t 1)⟩, ⟨.some 53, .none, .mv (.t 1)⟩, ⟨.some 54, .none, .bin .add (.t 53) (.c (.int .i64 1))⟩, ⟨.some 55, .none, .call 278 .opn [.t 51, .t 52, .t 54]⟩, ⟨.some 0, .none, .mv (.t 55)⟩]) (.seq (.rg false [⟨.some 56, .none, .fa 0 (.t 10)⟩, ⟨.some 57, .none, .ld .none (.t 56)⟩, ⟨.some 58, .none, .fa 1 (.t 7)⟩, ⟨.some 59, .none, .ld .none (.t 58)⟩, ⟨.some 60, .none, .bin .neq (.t 57) (.t 59)⟩, ⟨.some 61, .none, .mv (.t 60)⟩, ⟨.some 62, .some (61, false), .fa 0 (.t 7)⟩, ⟨.some 63, .some (61, false), .ld .none (.t 62)⟩, ⟨.some 64, .some (61, false), .bin .eql (.t 63) (.c (.int .i64 3))⟩, ⟨.some 65, .none, .pick (.t 61) (.c (.bool true)) (.t 64)⟩]) (.cond (.t 65) (.rg false [⟨.some 66, .none, .mv (.t 0)⟩, ⟨.some 67, .none, .ld (.some 3) (.t 10)⟩, ⟨.some 68, .none, .call 277 .opn [.t 66, .t 67]⟩, ⟨.some 0, .none, .mv (.t 68)⟩]) .skip))) (.exit 0))))) (.seq (.rg true [⟨.some 69, .none, .mv (.t 0)⟩, ⟨.some 70, .none, .mv (.t 0)⟩, ⟨.some 71, .none, .lenL (.t 70)⟩, ⟨.some 72, .none, .bin .leq (.t 71) (.c (.int .i64 16))⟩, ⟨.some 73, .none, .mv (.t 72)⟩, ⟨.some 74, .some (73, true), .fa 1 (.t 10)⟩, ⟨.some 75, .some (73, true), .ld .none (.t 74)⟩, ⟨.some 76, .some (73, true), .lenS (.t 75)⟩, ⟨.some 77, .some (73, true), .fa 2 (.t 10)⟩, ⟨.some 78, .some (73, true), .ld .none (.t 77)⟩, ⟨.some 79, .some (73, true), .lenS (.t 78)⟩, ⟨.some 80, .some (73, true), .bin .add (.t 76) (.t 79)⟩, ⟨.some 81, .some (73, true), .bin .leq (.t 80) (.c (.int .i64 16384))⟩, ⟨.some 82, .none, .pick (.t 73) (.t 81) (.c (.bool false))⟩, ⟨.some 8, .none, .mv (.t 69)⟩, ⟨.some 9, .none, .mv (.t 82)⟩]) .ret))))))
def ljg : List (Nat × Def) := [(267, d267)]
structure Op9 where
  k : Int
  n : List UInt8
  d : List UInt8
def opV (o : Op9) : PV := .agg [.sc (.int .i64 o.k), txt o.n, txt o.d]
structure Op9.Sm (o : Op9) : Prop where
  n : o.n.length ≤ 4000000000
  d : o.d.length ≤ 4000000000
def theF (l : List Fl) (n : List UInt8) : Fl := (getF l n).getD ⟨n, [], []⟩
def newF (l : List Fl) (o : Op9) : Fl :=
  if o.k = 1 then { theF l o.n with t := (theF l o.n).t ++ o.d }
  else if o.k = 2 then { theF l o.n with s := (theF l o.n).s ++ (theF l o.n).t, t := [] }
  else if o.k = 3 then { theF l o.n with n := o.d }
  else theF l o.n
def doneF (l : List Fl) (o : Op9) : List Fl :=
  if o.k = 1 ∨ o.k = 2 then putF l (newF l o)
  else if o.k = 3 then putF (delF' l o.n) (newF l o)
  else delF' l o.n
def roomF (l : List Fl) (o : Op9) : Bool := decide ((doneF l o).length ≤ 16) && decide ((newF l o).s.length + (newF l o).t.length ≤ 16384)
theorem delF_len {l : List Fl} {n : List UInt8} : (delF' l n).length ≤ l.length := by
  have := posF_le l n
  unfold delF'
  simp only [List.length_append, List.length_take, List.length_drop]
  omega
theorem theF_n (l : List Fl) (n : List UInt8) : (theF l n).n = n := by
  unfold theF
  cases h : getF l n with
  | none => rfl
  | some f =>
    unfold getF at h
    have := List.find?_some h
    simpa using this
section
variable {env : Nat → Option Def} {fr : Fr} {σ σ' σ'' : St} {K : Fr → St → Prop} {Q : X → Fr → St → Prop} {p : PV} {bs : List UInt8}
theorem le16 (n : Nat) {z : Int} (hz : z = 16) : decide ((n : Int) ≤ z) = decide (n ≤ 16) := by
  subst hz
  by_cases h : n ≤ 16
  · rw [decide_eq_true h, decide_eq_true (show (n : Int) ≤ 16 by omega)]
  · rw [decide_eq_false h, decide_eq_false (show ¬ (n : Int) ≤ 16 by omega)]
theorem le16k (n : Nat) : decide ((n : Int) ≤ 16384) = decide (n ≤ 16384) := by
  by_cases h : n ≤ 16384
  · rw [decide_eq_true h, decide_eq_true (show (n : Int) ≤ 16384 by omega)]
  · rw [decide_eq_false h, decide_eq_false (show ¬ (n : Int) ≤ 16384 by omega)]
structure DoneP (σ : St) (L : List Fl) (B : Bool) (r : PV) (τ : St) : Prop where
  q : ∃ q, r = .tu [q, .sc (.bool B)] ∧ RowW τ 3 q (fls L)
  k : Kp (2000000 ≤ ·) σ τ
structure SwP (σ : St) (L : List Fl) (f : Fl) (x : X) (fr : Fr) (τ : St) : Prop where
  x : x = .normal
  q : ∃ q, fr 0 = q ∧ RowW τ 3 q (fls L)
  k : Kp (2000000 ≤ ·) σ τ
  m : τ.m 2000010 (σ.c 2000010) = some ⟨3, [fl f], true, true⟩
  f10 : fr 10 = .bx 2000010 (σ.c 2000010) 3 0 0
theorem newF_le {l : List Fl} {o : Op9} (h1 : (theF l o.n).s.length ≤ 4000000000) (h2 : (theF l o.n).t.length ≤ 4000000000) (h3 : o.d.length ≤ 4000000000) : (newF l o).s.length ≤ 9000000000 ∧ (newF l o).t.length ≤ 9000000000 := by
  generalize hF : theF l o.n = f at h1 h2
  by_cases k1 : o.k = 1
  · have e : newF l o = ⟨f.n, f.s, f.t ++ o.d⟩ := by unfold newF; rw [if_pos k1, hF]
    rw [e]
    exact ⟨show f.s.length ≤ _ by omega, show (f.t ++ o.d).length ≤ _ by rw [List.length_append]; omega⟩
  · by_cases k2 : o.k = 2
    · have e : newF l o = ⟨f.n, f.s ++ f.t, []⟩ := by unfold newF; rw [if_neg k1, if_pos k2, hF]
      rw [e]
      exact ⟨show (f.s ++ f.t).length ≤ _ by rw [List.length_append]; omega, by simp⟩
    · by_cases k3 : o.k = 3
      · have e : newF l o = ⟨o.d, f.s, f.t⟩ := by unfold newF; rw [if_neg k1, if_neg k2, if_pos k3, hF]
        rw [e]
        exact ⟨show f.s.length ≤ _ by omega, show f.t.length ≤ _ by omega⟩
      · have e : newF l o = f := by unfold newF; rw [if_neg k1, if_neg k2, if_neg k3, hF]
        rw [e]
        exact ⟨by omega, by omega⟩
theorem a267_1 (J : Has lja env) (D : Has ljd env) (O : Has ljb env) (G : Has ljf env) (G2 : Has ljg env) {l : List Fl} {o : Op9} (hw : RowW σ 3 p (fls l)) (hs : Srt l) (hl : l.length ≤ 900) (hsm : ∀ f ∈ l, f.Sm) (ho : o.Sm) (hF : Fresh σ)
    (hk1 : o.k = 1) :
    ∃ q σ', EV env 267 [p, .sc (.int .i64 (posF l o.n : Int)), .sc (.bool (hasF l o.n)), opV o] σ = some (.tu [q, .sc (.bool (roomF l o))], σ') ∧ RowW σ' 3 q (fls (doneF l o)) ∧ Kp (2000000 ≤ ·) σ σ' := by
  have hln := fls_len l
  have hle := posF_le l o.n
  obtain ⟨ok1, ok2⟩ := hw.ok
  have htn := theF_n l o.n
  have hts : (theF l o.n).s.length ≤ 4000000000 ∧ (theF l o.n).t.length ≤ 4000000000 := by
    unfold theF
    cases h : getF l o.n with
    | none => simp
    | some f => exact ⟨(hsm f ((getF_some hs).1 h).1).s, (hsm f ((getF_some hs).1 h).1).t⟩
  suffices h : ∃ r τ, EV env 267 [p, .sc (.int .i64 (posF l o.n : Int)), .sc (.bool (hasF l o.n)), opV o] σ = some (r, τ) ∧ DoneP σ (doneF l o) (roomF l o) r τ by
    obtain ⟨r, τ, h1, ⟨⟨q, rfl, h2⟩, h3⟩⟩ := h
    exact ⟨q, τ, h1, h2, h3⟩
  refine EV_wp' (σ := σ) (R := DoneP σ (doneF l o) (roomF l o)) (G2 (267, d267) (by simp [ljg])) rfl ?_
  unfold opV
  (repeat' first
    | refine w_seq ?_ | refine w_rg ?_ | refine wo_nil ?_ | refine g_skU ?_ | refine g_skT ?_ | refine g_skF ?_
    | ((first | apply s_plain | apply s_void | apply s_guard | apply g_goT | apply g_goF); · simp only [go_sem, Nat.reduceEqDiff, Nat.reduceAdd, Nat.reduceLeDiff, ok1, ok2, List.set_cons_succ]; (first | done | rfl))
    | ((first | apply g_T | apply g_F | apply g_gT | apply g_gF); · intro q1_; (first | intro q2_ | have q2_ := q1_); simp only [go_sem, Nat.reduceEqDiff, Nat.reduceAdd, Nat.reduceLeDiff, ok1, ok2, List.set_cons_succ, q1_, q2_]; (first | done | rfl))
    | fail
    )
  -- the file that is there, or none yet
  refine Wp.mono (Q := fun x fr τ => x = .normal ∧ τ.m 2000007 (σ.c 2000007) = some ⟨3, [.agg [.sc (.int .i64 o.k), txt o.n, txt o.d]], true, true⟩ ∧ τ.m 2000010 (σ.c 2000010) = some ⟨3, [fl (theF l o.n)], true, true⟩ ∧
    RowW τ 3 p (fls l) ∧ Kp (2000000 ≤ ·) σ τ ∧ fr 0 = p ∧ fr 1 = .sc (.int .i64 (posF l o.n : Int)) ∧ fr 7 = .bx 2000007 (σ.c 2000007) 3 0 0 ∧ fr 10 = .bx 2000010 (σ.c 2000010) 3 0 0) ?_ ?_
  · cases hh : hasF l o.n with
    | true =>
      obtain ⟨f0, q1, q2, q3⟩ := pos_at hs hh
      have hlt := (List.getElem?_eq_some_iff.1 q1).1
      have htf : theF l o.n = f0 := by unfold theF; rw [q3]; rfl
      rcases hw with ⟨rfl, hx⟩ | ⟨o1, g1, rfl, h3, h4⟩
      · have h0 : l.length = 0 := by rw [← hln, hx]; rfl
        omega
      · have e1 : (0 : Int) ≤ ((posF l o.n : Nat) : Int) ∧ ((posF l o.n : Nat) : Int) < ((fls l).length : Int) := by rw [hln]; omega
        have hne7 : ¬ (o1 = 2000007) := by omega
        have hne10 : ¬ (o1 = 2000010) := by omega
        have hy := fls_at q1
        unfold fl at hy
        rw [htf]
        (repeat' first
    | refine w_seq ?_ | refine w_rg ?_ | refine wo_nil ?_ | refine g_skU ?_ | refine g_skT ?_ | refine g_skF ?_
    | ((first | apply s_plain | apply s_void | apply s_guard | apply g_goT | apply g_goF); · simp only [go_sem, Nat.reduceEqDiff, Nat.reduceAdd, Nat.reduceLeDiff, e1, Int.toNat_natCast, hne7, hne10, false_and, h3, hy, List.set_cons_succ]; (first | done | rfl))
    | ((first | apply g_T | apply g_F | apply g_gT | apply g_gF); · intro q1_; (first | intro q2_ | have q2_ := q1_); simp only [go_sem, Nat.reduceEqDiff, Nat.reduceAdd, Nat.reduceLeDiff, e1, Int.toNat_natCast, hne7, hne10, false_and, h3, hy, List.set_cons_succ, q1_, q2_]; (first | done | rfl))
    | (apply w_condX; · simp only [go_sem, Nat.reduceEqDiff, Nat.reduceAdd, Nat.reduceLeDiff, e1, Int.toNat_natCast, hne7, hne10, false_and, h3, hy, List.set_cons_succ]; (first | done | rfl)); (first | refine wcd_T ?_ | refine wcd_F ?_)
    | refine w_skip ?_ | refine w_exit ?_ | refine w_ret ?_
    | fail
    )
        refine ⟨rfl, by simp only [go_sem, Nat.reduceEqDiff, Nat.reduceAdd, Nat.reduceLeDiff, List.set_cons_succ], by simp only [go_sem, Nat.reduceEqDiff, Nat.reduceAdd, Nat.reduceLeDiff, List.set_cons_succ, fl], ?_, ?_, by simp only [go_sem, Nat.reduceEqDiff, Nat.reduceAdd, Nat.reduceLeDiff], by simp only [go_sem, Nat.reduceEqDiff, Nat.reduceAdd, Nat.reduceLeDiff], by simp only [go_sem, Nat.reduceEqDiff, Nat.reduceAdd, Nat.reduceLeDiff], by simp only [go_sem, Nat.reduceEqDiff, Nat.reduceAdd, Nat.reduceLeDiff]⟩
        · exact ((((RowW.new (.inr ⟨o1, g1, rfl, h3, h4⟩) hF _ _).new (hF.new _ _) _ _).put (by decide) _).put (by decide) _)
        · exact ((((Kp.refl hF).new _ _).new _ _).put (x := ⟨3, [.agg [.sc (.string ⟨#[]⟩), .sc (.string ⟨#[]⟩), .sc (.string ⟨#[]⟩)]], true, true⟩) (by simp only [go_sem, Nat.reduceEqDiff, Nat.reduceAdd, Nat.reduceLeDiff]) (.inr (Nat.le_refl _)) _).put (x := ⟨3, [.agg [txt o.n, .sc (.string ⟨#[]⟩), .sc (.string ⟨#[]⟩)]], true, true⟩) (by simp only [go_sem, Nat.reduceEqDiff, Nat.reduceAdd, Nat.reduceLeDiff]) (.inr (Nat.le_refl _)) _
    | false =>
      have htf : theF l o.n = ⟨o.n, [], []⟩ := by
        unfold hasF at hh
        unfold theF
        rw [show getF l o.n = none by simpa using hh]; rfl
      rw [htf]
      (repeat' first
    | refine w_seq ?_ | refine w_rg ?_ | refine wo_nil ?_ | refine g_skU ?_ | refine g_skT ?_ | refine g_skF ?_
    | ((first | apply s_plain | apply s_void | apply s_guard | apply g_goT | apply g_goF); · simp only [go_sem, Nat.reduceEqDiff, Nat.reduceAdd, Nat.reduceLeDiff, List.set_cons_succ]; (first | done | rfl))
    | ((first | apply g_T | apply g_F | apply g_gT | apply g_gF); · intro q1_; (first | intro q2_ | have q2_ := q1_); simp only [go_sem, Nat.reduceEqDiff, Nat.reduceAdd, Nat.reduceLeDiff, List.set_cons_succ, q1_, q2_]; (first | done | rfl))
    | (apply w_condX; · simp only [go_sem, Nat.reduceEqDiff, Nat.reduceAdd, Nat.reduceLeDiff, List.set_cons_succ]; (first | done | rfl)); (first | refine wcd_T ?_ | refine wcd_F ?_)
    | refine w_skip ?_ | refine w_exit ?_ | refine w_ret ?_
    | fail
    )
      refine ⟨rfl, by simp only [go_sem, Nat.reduceEqDiff, Nat.reduceAdd, Nat.reduceLeDiff, List.set_cons_succ], by simp only [go_sem, Nat.reduceEqDiff, Nat.reduceAdd, Nat.reduceLeDiff, List.set_cons_succ, fl]; first | done | rfl, ?_, ?_, by simp only [go_sem, Nat.reduceEqDiff, Nat.reduceAdd, Nat.reduceLeDiff], by simp only [go_sem, Nat.reduceEqDiff, Nat.reduceAdd, Nat.reduceLeDiff], by simp only [go_sem, Nat.reduceEqDiff, Nat.reduceAdd, Nat.reduceLeDiff], by simp only [go_sem, Nat.reduceEqDiff, Nat.reduceAdd, Nat.reduceLeDiff]⟩
      · exact ((hw.new hF _ _).new (hF.new _ _) _ _).put (by decide) _
      · exact (((Kp.refl hF).new _ _).new _ _).put (x := ⟨3, [.agg [.sc (.string ⟨#[]⟩), .sc (.string ⟨#[]⟩), .sc (.string ⟨#[]⟩)]], true, true⟩) (by simp only [go_sem, Nat.reduceEqDiff, Nat.reduceAdd, Nat.reduceLeDiff]) (.inr (Nat.le_refl _)) _
  rintro x fr1 τ ⟨rfl, m7, m10, hw1, kp, f0, f1, f7, f10⟩
  try show Wp _ _ _ _ _
  (repeat' first
    | refine w_seq ?_ | refine w_rg ?_ | refine wo_nil ?_ | refine g_skU ?_ | refine g_skT ?_ | refine g_skF ?_
    | ((first | apply s_plain | apply s_void | apply s_guard | apply g_goT | apply g_goF); · simp only [go_sem, Nat.reduceEqDiff, Nat.reduceAdd, Nat.reduceLeDiff, f7, m7]; (first | done | rfl))
    | ((first | apply g_T | apply g_F | apply g_gT | apply g_gF); · intro q1_; (first | intro q2_ | have q2_ := q1_); simp only [go_sem, Nat.reduceEqDiff, Nat.reduceAdd, Nat.reduceLeDiff, f7, m7, q1_, q2_]; (first | done | rfl))
    | fail
    )
  have hlt10 : σ.c 2000010 < τ.c 2000010 := kp.f _ _ (by rw [m10]; rfl)
  refine Wp.mono (Q := SwP σ (doneF l o) (newF l o)) ?_ ?_
  · refine w_block ?_
    (repeat' first
    | refine w_seq ?_ | refine w_rg ?_ | refine wo_nil ?_ | refine g_skU ?_ | refine g_skT ?_ | refine g_skF ?_
    | ((first | apply s_plain | apply s_void | apply s_guard | apply g_goT | apply g_goF); · simp only [go_sem, Nat.reduceEqDiff, Nat.reduceAdd, Nat.reduceLeDiff]; (first | done | rfl))
    | ((first | apply g_T | apply g_F | apply g_gT | apply g_gF); · intro q1_; (first | intro q2_ | have q2_ := q1_); simp only [go_sem, Nat.reduceEqDiff, Nat.reduceAdd, Nat.reduceLeDiff, q1_, q2_]; (first | done | rfl))
    | fail
    )
    refine w_block ?_
    (repeat' first
    | refine w_seq ?_ | refine w_rg ?_ | refine wo_nil ?_ | refine g_skU ?_ | refine g_skT ?_ | refine g_skF ?_
    | ((first | apply s_plain | apply s_void | apply s_guard | apply g_goT | apply g_goF); · simp only [go_sem, Nat.reduceEqDiff, Nat.reduceAdd, Nat.reduceLeDiff]; (first | done | rfl))
    | ((first | apply g_T | apply g_F | apply g_gT | apply g_gF); · intro q1_; (first | intro q2_ | have q2_ := q1_); simp only [go_sem, Nat.reduceEqDiff, Nat.reduceAdd, Nat.reduceLeDiff, q1_, q2_]; (first | done | rfl))
    | fail
    )
    refine w_block ?_
    (repeat' first
    | refine w_seq ?_ | refine w_rg ?_ | refine wo_nil ?_ | refine g_skU ?_ | refine g_skT ?_ | refine g_skF ?_
    | ((first | apply s_plain | apply s_void | apply s_guard | apply g_goT | apply g_goF); · simp only [go_sem, Nat.reduceEqDiff, Nat.reduceAdd, Nat.reduceLeDiff]; (first | done | rfl))
    | ((first | apply g_T | apply g_F | apply g_gT | apply g_gF); · intro q1_; (first | intro q2_ | have q2_ := q1_); simp only [go_sem, Nat.reduceEqDiff, Nat.reduceAdd, Nat.reduceLeDiff, q1_, q2_]; (first | done | rfl))
    | fail
    )
    refine w_block ?_
    (repeat' first
    | refine w_seq ?_ | refine w_rg ?_ | refine wo_nil ?_ | refine g_skU ?_ | refine g_skT ?_ | refine g_skF ?_
    | ((first | apply s_plain | apply s_void | apply s_guard | apply g_goT | apply g_goF); · simp only [go_sem, Nat.reduceEqDiff, Nat.reduceAdd, Nat.reduceLeDiff]; (first | done | rfl))
    | ((first | apply g_T | apply g_F | apply g_gT | apply g_gF); · intro q1_; (first | intro q2_ | have q2_ := q1_); simp only [go_sem, Nat.reduceEqDiff, Nat.reduceAdd, Nat.reduceLeDiff, q1_, q2_]; (first | done | rfl))
    | fail
    )
    refine w_block ?_
    (repeat' first
    | refine w_seq ?_ | refine w_rg ?_ | refine wo_nil ?_ | refine g_skU ?_ | refine g_skT ?_ | refine g_skF ?_
    | ((first | apply s_plain | apply s_void | apply s_guard | apply g_goT | apply g_goF); · simp only [go_sem, Nat.reduceEqDiff, Nat.reduceAdd, Nat.reduceLeDiff]; (first | done | rfl))
    | ((first | apply g_T | apply g_F | apply g_gT | apply g_gF); · intro q1_; (first | intro q2_ | have q2_ := q1_); simp only [go_sem, Nat.reduceEqDiff, Nat.reduceAdd, Nat.reduceLeDiff, q1_, q2_]; (first | done | rfl))
    | fail
    )
    rw [hk1] at m7 ⊢
    have c1 : (theF l o.n).t.length + o.d.length ≤ 9223372036854775807 := by have := ho.d; omega
    have hnf : newF l o = ⟨(theF l o.n).n, (theF l o.n).s, (theF l o.n).t ++ o.d⟩ := by unfold newF; rw [if_pos hk1]
    have hdf : doneF l o = putF l (newF l o) := by unfold doneF; rw [if_pos (.inl hk1)]
    rw [hdf, hnf]
    unfold fl at m10
    (repeat' first
    | refine w_seq ?_ | refine w_rg ?_ | refine wo_nil ?_ | refine g_skU ?_ | refine g_skT ?_ | refine g_skF ?_
    | ((first | apply s_plain | apply s_void | apply s_guard | apply g_goT | apply g_goF); · simp only [go_sem, Nat.reduceEqDiff, Nat.reduceAdd, Nat.reduceLeDiff, beq_self_eq_true]; (first | done | rfl))
    | ((first | apply g_T | apply g_F | apply g_gT | apply g_gF); · intro q1_; (first | intro q2_ | have q2_ := q1_); simp only [go_sem, Nat.reduceEqDiff, Nat.reduceAdd, Nat.reduceLeDiff, beq_self_eq_true, q1_, q2_]; (first | done | rfl))
    | (apply w_condX; · simp only [go_sem, Nat.reduceEqDiff, Nat.reduceAdd, Nat.reduceLeDiff, beq_self_eq_true]; (first | done | rfl)); (first | refine wcd_T ?_ | refine wcd_F ?_)
    | refine w_skip ?_ | refine w_exit ?_ | refine w_ret ?_
    | fail
    )
    try simp only [if_true, if_false, Nat.reduceEqDiff, reduceCtorEq]
    try show Wp _ _ _ _ _
    (repeat' first
    | refine w_seq ?_ | refine w_rg ?_ | refine wo_nil ?_ | refine g_skU ?_ | refine g_skT ?_ | refine g_skF ?_
    | ((first | apply s_plain | apply s_void | apply s_guard | apply g_goT | apply g_goF); · simp only [go_sem, Nat.reduceEqDiff, Nat.reduceAdd, Nat.reduceLeDiff, f0, f7, f10, m7, m10, List.size_toArray, c1, List.set_cons_succ]; (first | done | rfl))
    | ((first | apply g_T | apply g_F | apply g_gT | apply g_gF); · intro q1_; (first | intro q2_ | have q2_ := q1_); simp only [go_sem, Nat.reduceEqDiff, Nat.reduceAdd, Nat.reduceLeDiff, f0, f7, f10, m7, m10, List.size_toArray, c1, List.set_cons_succ, q1_, q2_]; (first | done | rfl))
    | fail
    )
    have kq := kp.put m10 (.inr (Nat.le_refl _)) (some ⟨3, [.agg [txt (theF l o.n).n, txt (theF l o.n).s, txt ((theF l o.n).t ++ o.d)]], true, true⟩)
    obtain ⟨q, τ3, h1, h2, h3⟩ := a277 J D O G (f := ⟨(theF l o.n).n, (theF l o.n).s, (theF l o.n).t ++ o.d⟩) (hw1.put (o := 2000010) (g := σ.c 2000010) (by decide) (some ⟨3, [.agg [txt (theF l o.n).n, txt (theF l o.n).s, txt ((theF l o.n).t ++ o.d)]], true, true⟩)) hs (by omega) kq.f
    refine s_plain (v := q) (σ' := τ3) (by simp only [go_sem, Nat.reduceEqDiff, Nat.reduceAdd, Nat.reduceLeDiff]; exact h1) ?_
    have k3 := kq.trans h3
    have m3 : τ3.m 2000010 (σ.c 2000010) = some ⟨3, [.agg [txt (theF l o.n).n, txt (theF l o.n).s, txt ((theF l o.n).t ++ o.d)]], true, true⟩ := by
      rw [h3.m 2000010 (σ.c 2000010) (by decide) hlt10]; simp only [go_sem, Nat.reduceEqDiff, Nat.reduceAdd, Nat.reduceLeDiff]
    (repeat' first
    | refine w_seq ?_ | refine w_rg ?_ | refine wo_nil ?_ | refine g_skU ?_ | refine g_skT ?_ | refine g_skF ?_
    | ((first | apply s_plain | apply s_void | apply s_guard | apply g_goT | apply g_goF); · simp only [go_sem, Nat.reduceEqDiff, Nat.reduceAdd, Nat.reduceLeDiff]; (first | done | rfl))
    | ((first | apply g_T | apply g_F | apply g_gT | apply g_gF); · intro q1_; (first | intro q2_ | have q2_ := q1_); simp only [go_sem, Nat.reduceEqDiff, Nat.reduceAdd, Nat.reduceLeDiff, q1_, q2_]; (first | done | rfl))
    | (apply w_condX; · simp only [go_sem, Nat.reduceEqDiff, Nat.reduceAdd, Nat.reduceLeDiff]; (first | done | rfl)); (first | refine wcd_T ?_ | refine wcd_F ?_)
    | refine w_skip ?_ | refine w_exit ?_ | refine w_ret ?_
    | fail
    )
    try simp only [if_true, if_false, Nat.reduceEqDiff, reduceCtorEq]
    exact ⟨rfl, ⟨q, by simp only [go_sem, Nat.reduceEqDiff, Nat.reduceAdd, Nat.reduceLeDiff], h2⟩, k3, m3, by simp only [go_sem, Nat.reduceEqDiff, Nat.reduceAdd, Nat.reduceLeDiff, f10]⟩
  · rintro x fr2 τ2 ⟨rfl, ⟨q, g0, hq⟩, kq, mq, g10⟩
    try show Wp _ _ _ _ _
    have hlp := hq.lenP
    have hdl := fls_len (doneF l o)
    obtain ⟨ok3, ok4⟩ := hq.ok
    unfold fl at mq
    have hnf1 := newF_le hts.1 hts.2 ho.d
    have hroom : roomF l o = (decide ((doneF l o).length ≤ 16) && decide ((newF l o).s.length + (newF l o).t.length ≤ 16384)) := rfl
    rw [hroom]
    clear hroom hw1 m7 m10 htn hts
    generalize newF l o = nf at mq hnf1 ⊢
    generalize hdd : doneF l o = df at hq hlp hdl ⊢
    have w1 : IntKind.i64.wrap ((nf.s.length : Int) + (nf.t.length : Int)) = ((nf.s.length + nf.t.length : Nat) : Int) := by rw [IntKind.wrap_i64]; omega
    have e1 := le16k (nf.s.length + nf.t.length)
    have e2 := le16 df.length (z := 16) rfl
    generalize decide (nf.s.length + nf.t.length ≤ 16384) = B at e1 ⊢
    generalize decide (df.length ≤ 16) = C at e2 ⊢
    cases C with
    | true =>
      refine w_seq (w_rg ?_)
      refine s_plain (v := q) (σ' := τ2) (by simp only [go_sem, Nat.reduceEqDiff, Nat.reduceAdd, Nat.reduceLeDiff, g0]) ?_
      refine s_plain (v := q) (σ' := τ2) (by simp only [go_sem, Nat.reduceEqDiff, Nat.reduceAdd, Nat.reduceLeDiff, g0]) ?_
      refine s_plain (v := .sc (.int .i64 (df.length : Int))) (σ' := τ2) (by simp only [go_sem, Nat.reduceEqDiff, Nat.reduceAdd, Nat.reduceLeDiff, hlp, hdl]; first | done | rfl) ?_
      refine s_plain (v := .sc (.bool true)) (σ' := τ2) (by simp only [go_sem, Nat.reduceEqDiff, Nat.reduceAdd, Nat.reduceLeDiff, e2]) ?_
      refine s_plain (v := .sc (.bool true)) (σ' := τ2) (by simp only [go_sem, Nat.reduceEqDiff, Nat.reduceAdd, Nat.reduceLeDiff]) ?_
      refine s_guard (g := .sc (.bool true)) (by simp only [go_sem, Nat.reduceEqDiff, Nat.reduceAdd, Nat.reduceLeDiff]) ?_
      refine g_goT (v := .bx 2000010 (σ.c 2000010) 3 0 1) (σ' := τ2) (by simp only [go_sem, Nat.reduceEqDiff, Nat.reduceAdd, Nat.reduceLeDiff, g10]) ?_
      refine s_guard (g := .sc (.bool true)) (by simp only [go_sem, Nat.reduceEqDiff, Nat.reduceAdd, Nat.reduceLeDiff]) ?_
      refine g_goT (v := txt nf.s) (σ' := τ2) (by simp only [go_sem, Nat.reduceEqDiff, Nat.reduceAdd, Nat.reduceLeDiff, mq]) ?_
      refine s_guard (g := .sc (.bool true)) (by simp only [go_sem, Nat.reduceEqDiff, Nat.reduceAdd, Nat.reduceLeDiff]) ?_
      refine g_goT (v := .sc (.int .i64 (nf.s.length : Int))) (σ' := τ2) (by simp only [go_sem, Nat.reduceEqDiff, Nat.reduceAdd, Nat.reduceLeDiff, List.size_toArray]) ?_
      refine s_guard (g := .sc (.bool true)) (by simp only [go_sem, Nat.reduceEqDiff, Nat.reduceAdd, Nat.reduceLeDiff]) ?_
      refine g_goT (v := .bx 2000010 (σ.c 2000010) 3 0 2) (σ' := τ2) (by simp only [go_sem, Nat.reduceEqDiff, Nat.reduceAdd, Nat.reduceLeDiff, g10]) ?_
      refine s_guard (g := .sc (.bool true)) (by simp only [go_sem, Nat.reduceEqDiff, Nat.reduceAdd, Nat.reduceLeDiff]) ?_
      refine g_goT (v := txt nf.t) (σ' := τ2) (by simp only [go_sem, Nat.reduceEqDiff, Nat.reduceAdd, Nat.reduceLeDiff, mq]) ?_
      refine s_guard (g := .sc (.bool true)) (by simp only [go_sem, Nat.reduceEqDiff, Nat.reduceAdd, Nat.reduceLeDiff]) ?_
      refine g_goT (v := .sc (.int .i64 (nf.t.length : Int))) (σ' := τ2) (by simp only [go_sem, Nat.reduceEqDiff, Nat.reduceAdd, Nat.reduceLeDiff, List.size_toArray]) ?_
      refine s_guard (g := .sc (.bool true)) (by simp only [go_sem, Nat.reduceEqDiff, Nat.reduceAdd, Nat.reduceLeDiff]) ?_
      refine g_goT (v := .sc (.int .i64 ((nf.s.length + nf.t.length : Nat) : Int))) (σ' := τ2) (by simp only [go_sem, Nat.reduceEqDiff, Nat.reduceAdd, Nat.reduceLeDiff, w1]) ?_
      refine s_guard (g := .sc (.bool true)) (by simp only [go_sem, Nat.reduceEqDiff, Nat.reduceAdd, Nat.reduceLeDiff]) ?_
      refine g_goT (v := .sc (.bool B)) (σ' := τ2) (by simp only [go_sem, Nat.reduceEqDiff, Nat.reduceAdd, Nat.reduceLeDiff, e1]) ?_
      refine s_plain (v := .sc (.bool B)) (σ' := τ2) (by simp only [go_sem, Nat.reduceEqDiff, Nat.reduceAdd, Nat.reduceLeDiff]) ?_
      refine s_plain (v := q) (σ' := τ2) (by simp only [go_sem, Nat.reduceEqDiff, Nat.reduceAdd, Nat.reduceLeDiff]) ?_
      refine s_plain (v := .sc (.bool B)) (σ' := τ2) (by simp only [go_sem, Nat.reduceEqDiff, Nat.reduceAdd, Nat.reduceLeDiff]) ?_
      refine wo_nil (w_ret ?_)
      exact ⟨.inr rfl, .tu [q, .sc (.bool B)], by simp only [go_sem, Nat.reduceEqDiff, Nat.reduceAdd, Nat.reduceLeDiff, retOf, resOf], ⟨⟨q, rfl, hq⟩, kq⟩⟩
    | false =>
      refine w_seq (w_rg ?_)
      refine s_plain (v := q) (σ' := τ2) (by simp only [go_sem, Nat.reduceEqDiff, Nat.reduceAdd, Nat.reduceLeDiff, g0]) ?_
      refine s_plain (v := q) (σ' := τ2) (by simp only [go_sem, Nat.reduceEqDiff, Nat.reduceAdd, Nat.reduceLeDiff, g0]) ?_
      refine s_plain (v := .sc (.int .i64 (df.length : Int))) (σ' := τ2) (by simp only [go_sem, Nat.reduceEqDiff, Nat.reduceAdd, Nat.reduceLeDiff, hlp, hdl]; first | done | rfl) ?_
      refine s_plain (v := .sc (.bool false)) (σ' := τ2) (by simp only [go_sem, Nat.reduceEqDiff, Nat.reduceAdd, Nat.reduceLeDiff, e2]) ?_
      refine s_plain (v := .sc (.bool false)) (σ' := τ2) (by simp only [go_sem, Nat.reduceEqDiff, Nat.reduceAdd, Nat.reduceLeDiff]) ?_
      iterate 8 (refine s_guard (g := .sc (.bool false)) (by simp only [go_sem, Nat.reduceEqDiff, Nat.reduceAdd, Nat.reduceLeDiff]) ?_; refine g_skT ?_)
      refine s_plain (v := .sc (.bool false)) (σ' := τ2) (by simp only [go_sem, Nat.reduceEqDiff, Nat.reduceAdd, Nat.reduceLeDiff]) ?_
      refine s_plain (v := q) (σ' := τ2) (by simp only [go_sem, Nat.reduceEqDiff, Nat.reduceAdd, Nat.reduceLeDiff]) ?_
      refine s_plain (v := .sc (.bool false)) (σ' := τ2) (by simp only [go_sem, Nat.reduceEqDiff, Nat.reduceAdd, Nat.reduceLeDiff]) ?_
      refine wo_nil (w_ret ?_)
      exact ⟨.inr rfl, .tu [q, .sc (.bool false)], by simp only [go_sem, Nat.reduceEqDiff, Nat.reduceAdd, Nat.reduceLeDiff, retOf, resOf], ⟨⟨q, rfl, hq⟩, kq⟩⟩
theorem a267_2 (J : Has lja env) (D : Has ljd env) (O : Has ljb env) (G : Has ljf env) (G2 : Has ljg env) {l : List Fl} {o : Op9} (hw : RowW σ 3 p (fls l)) (hs : Srt l) (hl : l.length ≤ 900) (hsm : ∀ f ∈ l, f.Sm) (ho : o.Sm) (hF : Fresh σ)
    (hh : hasF l o.n = true) (hk2 : o.k = 2) :
    ∃ q σ', EV env 267 [p, .sc (.int .i64 (posF l o.n : Int)), .sc (.bool (hasF l o.n)), opV o] σ = some (.tu [q, .sc (.bool (roomF l o))], σ') ∧ RowW σ' 3 q (fls (doneF l o)) ∧ Kp (2000000 ≤ ·) σ σ' := by
  have hln := fls_len l
  have hle := posF_le l o.n
  obtain ⟨ok1, ok2⟩ := hw.ok
  have htn := theF_n l o.n
  have hts : (theF l o.n).s.length ≤ 4000000000 ∧ (theF l o.n).t.length ≤ 4000000000 := by
    unfold theF
    cases h : getF l o.n with
    | none => simp
    | some f => exact ⟨(hsm f ((getF_some hs).1 h).1).s, (hsm f ((getF_some hs).1 h).1).t⟩
  suffices h : ∃ r τ, EV env 267 [p, .sc (.int .i64 (posF l o.n : Int)), .sc (.bool (hasF l o.n)), opV o] σ = some (r, τ) ∧ DoneP σ (doneF l o) (roomF l o) r τ by
    obtain ⟨r, τ, h1, ⟨⟨q, rfl, h2⟩, h3⟩⟩ := h
    exact ⟨q, τ, h1, h2, h3⟩
  refine EV_wp' (σ := σ) (R := DoneP σ (doneF l o) (roomF l o)) (G2 (267, d267) (by simp [ljg])) rfl ?_
  unfold opV
  (repeat' first
    | refine w_seq ?_ | refine w_rg ?_ | refine wo_nil ?_ | refine g_skU ?_ | refine g_skT ?_ | refine g_skF ?_
    | ((first | apply s_plain | apply s_void | apply s_guard | apply g_goT | apply g_goF); · simp only [go_sem, Nat.reduceEqDiff, Nat.reduceAdd, Nat.reduceLeDiff, ok1, ok2, List.set_cons_succ]; (first | done | rfl))
    | ((first | apply g_T | apply g_F | apply g_gT | apply g_gF); · intro q1_; (first | intro q2_ | have q2_ := q1_); simp only [go_sem, Nat.reduceEqDiff, Nat.reduceAdd, Nat.reduceLeDiff, ok1, ok2, List.set_cons_succ, q1_, q2_]; (first | done | rfl))
    | fail
    )
  -- the file that is there, or none yet
  refine Wp.mono (Q := fun x fr τ => x = .normal ∧ τ.m 2000007 (σ.c 2000007) = some ⟨3, [.agg [.sc (.int .i64 o.k), txt o.n, txt o.d]], true, true⟩ ∧ τ.m 2000010 (σ.c 2000010) = some ⟨3, [fl (theF l o.n)], true, true⟩ ∧
    RowW τ 3 p (fls l) ∧ Kp (2000000 ≤ ·) σ τ ∧ fr 0 = p ∧ fr 1 = .sc (.int .i64 (posF l o.n : Int)) ∧ fr 7 = .bx 2000007 (σ.c 2000007) 3 0 0 ∧ fr 10 = .bx 2000010 (σ.c 2000010) 3 0 0) ?_ ?_
  · cases hh : hasF l o.n with
    | true =>
      obtain ⟨f0, q1, q2, q3⟩ := pos_at hs hh
      have hlt := (List.getElem?_eq_some_iff.1 q1).1
      have htf : theF l o.n = f0 := by unfold theF; rw [q3]; rfl
      rcases hw with ⟨rfl, hx⟩ | ⟨o1, g1, rfl, h3, h4⟩
      · have h0 : l.length = 0 := by rw [← hln, hx]; rfl
        omega
      · have e1 : (0 : Int) ≤ ((posF l o.n : Nat) : Int) ∧ ((posF l o.n : Nat) : Int) < ((fls l).length : Int) := by rw [hln]; omega
        have hne7 : ¬ (o1 = 2000007) := by omega
        have hne10 : ¬ (o1 = 2000010) := by omega
        have hy := fls_at q1
        unfold fl at hy
        rw [htf]
        (repeat' first
    | refine w_seq ?_ | refine w_rg ?_ | refine wo_nil ?_ | refine g_skU ?_ | refine g_skT ?_ | refine g_skF ?_
    | ((first | apply s_plain | apply s_void | apply s_guard | apply g_goT | apply g_goF); · simp only [go_sem, Nat.reduceEqDiff, Nat.reduceAdd, Nat.reduceLeDiff, e1, Int.toNat_natCast, hne7, hne10, false_and, h3, hy, List.set_cons_succ]; (first | done | rfl))
    | ((first | apply g_T | apply g_F | apply g_gT | apply g_gF); · intro q1_; (first | intro q2_ | have q2_ := q1_); simp only [go_sem, Nat.reduceEqDiff, Nat.reduceAdd, Nat.reduceLeDiff, e1, Int.toNat_natCast, hne7, hne10, false_and, h3, hy, List.set_cons_succ, q1_, q2_]; (first | done | rfl))
    | (apply w_condX; · simp only [go_sem, Nat.reduceEqDiff, Nat.reduceAdd, Nat.reduceLeDiff, e1, Int.toNat_natCast, hne7, hne10, false_and, h3, hy, List.set_cons_succ]; (first | done | rfl)); (first | refine wcd_T ?_ | refine wcd_F ?_)
    | refine w_skip ?_ | refine w_exit ?_ | refine w_ret ?_
    | fail
    )
        refine ⟨rfl, by simp only [go_sem, Nat.reduceEqDiff, Nat.reduceAdd, Nat.reduceLeDiff, List.set_cons_succ], by simp only [go_sem, Nat.reduceEqDiff, Nat.reduceAdd, Nat.reduceLeDiff, List.set_cons_succ, fl], ?_, ?_, by simp only [go_sem, Nat.reduceEqDiff, Nat.reduceAdd, Nat.reduceLeDiff], by simp only [go_sem, Nat.reduceEqDiff, Nat.reduceAdd, Nat.reduceLeDiff], by simp only [go_sem, Nat.reduceEqDiff, Nat.reduceAdd, Nat.reduceLeDiff], by simp only [go_sem, Nat.reduceEqDiff, Nat.reduceAdd, Nat.reduceLeDiff]⟩
        · exact ((((RowW.new (.inr ⟨o1, g1, rfl, h3, h4⟩) hF _ _).new (hF.new _ _) _ _).put (by decide) _).put (by decide) _)
        · exact ((((Kp.refl hF).new _ _).new _ _).put (x := ⟨3, [.agg [.sc (.string ⟨#[]⟩), .sc (.string ⟨#[]⟩), .sc (.string ⟨#[]⟩)]], true, true⟩) (by simp only [go_sem, Nat.reduceEqDiff, Nat.reduceAdd, Nat.reduceLeDiff]) (.inr (Nat.le_refl _)) _).put (x := ⟨3, [.agg [txt o.n, .sc (.string ⟨#[]⟩), .sc (.string ⟨#[]⟩)]], true, true⟩) (by simp only [go_sem, Nat.reduceEqDiff, Nat.reduceAdd, Nat.reduceLeDiff]) (.inr (Nat.le_refl _)) _
    | false =>
      have htf : theF l o.n = ⟨o.n, [], []⟩ := by
        unfold hasF at hh
        unfold theF
        rw [show getF l o.n = none by simpa using hh]; rfl
      rw [htf]
      (repeat' first
    | refine w_seq ?_ | refine w_rg ?_ | refine wo_nil ?_ | refine g_skU ?_ | refine g_skT ?_ | refine g_skF ?_
    | ((first | apply s_plain | apply s_void | apply s_guard | apply g_goT | apply g_goF); · simp only [go_sem, Nat.reduceEqDiff, Nat.reduceAdd, Nat.reduceLeDiff, List.set_cons_succ]; (first | done | rfl))
    | ((first | apply g_T | apply g_F | apply g_gT | apply g_gF); · intro q1_; (first | intro q2_ | have q2_ := q1_); simp only [go_sem, Nat.reduceEqDiff, Nat.reduceAdd, Nat.reduceLeDiff, List.set_cons_succ, q1_, q2_]; (first | done | rfl))
    | (apply w_condX; · simp only [go_sem, Nat.reduceEqDiff, Nat.reduceAdd, Nat.reduceLeDiff, List.set_cons_succ]; (first | done | rfl)); (first | refine wcd_T ?_ | refine wcd_F ?_)
    | refine w_skip ?_ | refine w_exit ?_ | refine w_ret ?_
    | fail
    )
      refine ⟨rfl, by simp only [go_sem, Nat.reduceEqDiff, Nat.reduceAdd, Nat.reduceLeDiff, List.set_cons_succ], by simp only [go_sem, Nat.reduceEqDiff, Nat.reduceAdd, Nat.reduceLeDiff, List.set_cons_succ, fl]; first | done | rfl, ?_, ?_, by simp only [go_sem, Nat.reduceEqDiff, Nat.reduceAdd, Nat.reduceLeDiff], by simp only [go_sem, Nat.reduceEqDiff, Nat.reduceAdd, Nat.reduceLeDiff], by simp only [go_sem, Nat.reduceEqDiff, Nat.reduceAdd, Nat.reduceLeDiff], by simp only [go_sem, Nat.reduceEqDiff, Nat.reduceAdd, Nat.reduceLeDiff]⟩
      · exact ((hw.new hF _ _).new (hF.new _ _) _ _).put (by decide) _
      · exact (((Kp.refl hF).new _ _).new _ _).put (x := ⟨3, [.agg [.sc (.string ⟨#[]⟩), .sc (.string ⟨#[]⟩), .sc (.string ⟨#[]⟩)]], true, true⟩) (by simp only [go_sem, Nat.reduceEqDiff, Nat.reduceAdd, Nat.reduceLeDiff]) (.inr (Nat.le_refl _)) _
  rintro x fr1 τ ⟨rfl, m7, m10, hw1, kp, f0, f1, f7, f10⟩
  try show Wp _ _ _ _ _
  (repeat' first
    | refine w_seq ?_ | refine w_rg ?_ | refine wo_nil ?_ | refine g_skU ?_ | refine g_skT ?_ | refine g_skF ?_
    | ((first | apply s_plain | apply s_void | apply s_guard | apply g_goT | apply g_goF); · simp only [go_sem, Nat.reduceEqDiff, Nat.reduceAdd, Nat.reduceLeDiff, f7, m7]; (first | done | rfl))
    | ((first | apply g_T | apply g_F | apply g_gT | apply g_gF); · intro q1_; (first | intro q2_ | have q2_ := q1_); simp only [go_sem, Nat.reduceEqDiff, Nat.reduceAdd, Nat.reduceLeDiff, f7, m7, q1_, q2_]; (first | done | rfl))
    | fail
    )
  have hlt10 : σ.c 2000010 < τ.c 2000010 := kp.f _ _ (by rw [m10]; rfl)
  refine Wp.mono (Q := SwP σ (doneF l o) (newF l o)) ?_ ?_
  · refine w_block ?_
    (repeat' first
    | refine w_seq ?_ | refine w_rg ?_ | refine wo_nil ?_ | refine g_skU ?_ | refine g_skT ?_ | refine g_skF ?_
    | ((first | apply s_plain | apply s_void | apply s_guard | apply g_goT | apply g_goF); · simp only [go_sem, Nat.reduceEqDiff, Nat.reduceAdd, Nat.reduceLeDiff]; (first | done | rfl))
    | ((first | apply g_T | apply g_F | apply g_gT | apply g_gF); · intro q1_; (first | intro q2_ | have q2_ := q1_); simp only [go_sem, Nat.reduceEqDiff, Nat.reduceAdd, Nat.reduceLeDiff, q1_, q2_]; (first | done | rfl))
    | fail
    )
    refine w_block ?_
    (repeat' first
    | refine w_seq ?_ | refine w_rg ?_ | refine wo_nil ?_ | refine g_skU ?_ | refine g_skT ?_ | refine g_skF ?_
    | ((first | apply s_plain | apply s_void | apply s_guard | apply g_goT | apply g_goF); · simp only [go_sem, Nat.reduceEqDiff, Nat.reduceAdd, Nat.reduceLeDiff]; (first | done | rfl))
    | ((first | apply g_T | apply g_F | apply g_gT | apply g_gF); · intro q1_; (first | intro q2_ | have q2_ := q1_); simp only [go_sem, Nat.reduceEqDiff, Nat.reduceAdd, Nat.reduceLeDiff, q1_, q2_]; (first | done | rfl))
    | fail
    )
    refine w_block ?_
    (repeat' first
    | refine w_seq ?_ | refine w_rg ?_ | refine wo_nil ?_ | refine g_skU ?_ | refine g_skT ?_ | refine g_skF ?_
    | ((first | apply s_plain | apply s_void | apply s_guard | apply g_goT | apply g_goF); · simp only [go_sem, Nat.reduceEqDiff, Nat.reduceAdd, Nat.reduceLeDiff]; (first | done | rfl))
    | ((first | apply g_T | apply g_F | apply g_gT | apply g_gF); · intro q1_; (first | intro q2_ | have q2_ := q1_); simp only [go_sem, Nat.reduceEqDiff, Nat.reduceAdd, Nat.reduceLeDiff, q1_, q2_]; (first | done | rfl))
    | fail
    )
    refine w_block ?_
    (repeat' first
    | refine w_seq ?_ | refine w_rg ?_ | refine wo_nil ?_ | refine g_skU ?_ | refine g_skT ?_ | refine g_skF ?_
    | ((first | apply s_plain | apply s_void | apply s_guard | apply g_goT | apply g_goF); · simp only [go_sem, Nat.reduceEqDiff, Nat.reduceAdd, Nat.reduceLeDiff]; (first | done | rfl))
    | ((first | apply g_T | apply g_F | apply g_gT | apply g_gF); · intro q1_; (first | intro q2_ | have q2_ := q1_); simp only [go_sem, Nat.reduceEqDiff, Nat.reduceAdd, Nat.reduceLeDiff, q1_, q2_]; (first | done | rfl))
    | fail
    )
    refine w_block ?_
    (repeat' first
    | refine w_seq ?_ | refine w_rg ?_ | refine wo_nil ?_ | refine g_skU ?_ | refine g_skT ?_ | refine g_skF ?_
    | ((first | apply s_plain | apply s_void | apply s_guard | apply g_goT | apply g_goF); · simp only [go_sem, Nat.reduceEqDiff, Nat.reduceAdd, Nat.reduceLeDiff]; (first | done | rfl))
    | ((first | apply g_T | apply g_F | apply g_gT | apply g_gF); · intro q1_; (first | intro q2_ | have q2_ := q1_); simp only [go_sem, Nat.reduceEqDiff, Nat.reduceAdd, Nat.reduceLeDiff, q1_, q2_]; (first | done | rfl))
    | fail
    )
    rw [hk2] at m7 ⊢
    have c1 : (theF l o.n).s.length + (theF l o.n).t.length ≤ 9223372036854775807 := by omega
    have hnf : newF l o = ⟨(theF l o.n).n, (theF l o.n).s ++ (theF l o.n).t, []⟩ := by unfold newF; rw [if_neg (by omega), if_pos hk2]
    have hdf : doneF l o = putF l (newF l o) := by unfold doneF; rw [if_pos (.inr hk2)]
    rw [hdf, hnf]
    unfold fl at m10
    have d1 : ((2 : Int) == 1) = false := rfl
    (repeat' first
    | refine w_seq ?_ | refine w_rg ?_ | refine wo_nil ?_ | refine g_skU ?_ | refine g_skT ?_ | refine g_skF ?_
    | ((first | apply s_plain | apply s_void | apply s_guard | apply g_goT | apply g_goF); · simp only [go_sem, Nat.reduceEqDiff, Nat.reduceAdd, Nat.reduceLeDiff, beq_self_eq_true, d1]; (first | done | rfl))
    | ((first | apply g_T | apply g_F | apply g_gT | apply g_gF); · intro q1_; (first | intro q2_ | have q2_ := q1_); simp only [go_sem, Nat.reduceEqDiff, Nat.reduceAdd, Nat.reduceLeDiff, beq_self_eq_true, d1, q1_, q2_]; (first | done | rfl))
    | (apply w_condX; · simp only [go_sem, Nat.reduceEqDiff, Nat.reduceAdd, Nat.reduceLeDiff, beq_self_eq_true, d1]; (first | done | rfl)); (first | refine wcd_T ?_ | refine wcd_F ?_)
    | refine w_skip ?_ | refine w_exit ?_ | refine w_ret ?_
    | fail
    )
    try simp only [if_true, if_false, Nat.reduceEqDiff, reduceCtorEq]
    try show Wp _ _ _ _ _
    (repeat' first
    | refine w_seq ?_ | refine w_rg ?_ | refine wo_nil ?_ | refine g_skU ?_ | refine g_skT ?_ | refine g_skF ?_
    | ((first | apply s_plain | apply s_void | apply s_guard | apply g_goT | apply g_goF); · simp only [go_sem, Nat.reduceEqDiff, Nat.reduceAdd, Nat.reduceLeDiff, f0, f7, f10, m7, m10, List.size_toArray, c1, List.set_cons_succ]; (first | done | rfl))
    | ((first | apply g_T | apply g_F | apply g_gT | apply g_gF); · intro q1_; (first | intro q2_ | have q2_ := q1_); simp only [go_sem, Nat.reduceEqDiff, Nat.reduceAdd, Nat.reduceLeDiff, f0, f7, f10, m7, m10, List.size_toArray, c1, List.set_cons_succ, q1_, q2_]; (first | done | rfl))
    | fail
    )
    have kq := (kp.put m10 (.inr (Nat.le_refl _)) (some ⟨3, [.agg [txt (theF l o.n).n, txt ((theF l o.n).s ++ (theF l o.n).t), txt (theF l o.n).t]], true, true⟩)).put (o := 2000010) (g := σ.c 2000010) (x := ⟨3, [.agg [txt (theF l o.n).n, txt ((theF l o.n).s ++ (theF l o.n).t), txt (theF l o.n).t]], true, true⟩) (by simp only [go_sem, Nat.reduceEqDiff, Nat.reduceAdd, Nat.reduceLeDiff]) (.inr (Nat.le_refl _)) (some ⟨3, [.agg [txt (theF l o.n).n, txt ((theF l o.n).s ++ (theF l o.n).t), txt []]], true, true⟩)
    obtain ⟨q, τ3, h1, h2, h3⟩ := a277 J D O G (f := ⟨(theF l o.n).n, (theF l o.n).s ++ (theF l o.n).t, []⟩) ((hw1.put (o := 2000010) (g := σ.c 2000010) (by decide) (some ⟨3, [.agg [txt (theF l o.n).n, txt ((theF l o.n).s ++ (theF l o.n).t), txt (theF l o.n).t]], true, true⟩)).put (o := 2000010) (g := σ.c 2000010) (by decide) (some ⟨3, [.agg [txt (theF l o.n).n, txt ((theF l o.n).s ++ (theF l o.n).t), txt []]], true, true⟩)) hs (by omega) kq.f
    refine s_plain (v := q) (σ' := τ3) (by simp only [go_sem, Nat.reduceEqDiff, Nat.reduceAdd, Nat.reduceLeDiff]; exact h1) ?_
    have k3 := kq.trans h3
    have m3 : τ3.m 2000010 (σ.c 2000010) = some ⟨3, [.agg [txt (theF l o.n).n, txt ((theF l o.n).s ++ (theF l o.n).t), txt []]], true, true⟩ := by
      rw [h3.m 2000010 (σ.c 2000010) (by decide) hlt10]; simp only [go_sem, Nat.reduceEqDiff, Nat.reduceAdd, Nat.reduceLeDiff]
    (repeat' first
    | refine w_seq ?_ | refine w_rg ?_ | refine wo_nil ?_ | refine g_skU ?_ | refine g_skT ?_ | refine g_skF ?_
    | ((first | apply s_plain | apply s_void | apply s_guard | apply g_goT | apply g_goF); · simp only [go_sem, Nat.reduceEqDiff, Nat.reduceAdd, Nat.reduceLeDiff]; (first | done | rfl))
    | ((first | apply g_T | apply g_F | apply g_gT | apply g_gF); · intro q1_; (first | intro q2_ | have q2_ := q1_); simp only [go_sem, Nat.reduceEqDiff, Nat.reduceAdd, Nat.reduceLeDiff, q1_, q2_]; (first | done | rfl))
    | (apply w_condX; · simp only [go_sem, Nat.reduceEqDiff, Nat.reduceAdd, Nat.reduceLeDiff]; (first | done | rfl)); (first | refine wcd_T ?_ | refine wcd_F ?_)
    | refine w_skip ?_ | refine w_exit ?_ | refine w_ret ?_
    | fail
    )
    try simp only [if_true, if_false, Nat.reduceEqDiff, reduceCtorEq]
    exact ⟨rfl, ⟨q, by simp only [go_sem, Nat.reduceEqDiff, Nat.reduceAdd, Nat.reduceLeDiff], h2⟩, k3, m3, by simp only [go_sem, Nat.reduceEqDiff, Nat.reduceAdd, Nat.reduceLeDiff, f10]⟩
  · rintro x fr2 τ2 ⟨rfl, ⟨q, g0, hq⟩, kq, mq, g10⟩
    try show Wp _ _ _ _ _
    have hlp := hq.lenP
    have hdl := fls_len (doneF l o)
    obtain ⟨ok3, ok4⟩ := hq.ok
    unfold fl at mq
    have hnf1 := newF_le hts.1 hts.2 ho.d
    have hroom : roomF l o = (decide ((doneF l o).length ≤ 16) && decide ((newF l o).s.length + (newF l o).t.length ≤ 16384)) := rfl
    rw [hroom]
    clear hroom hw1 m7 m10 htn hts
    generalize newF l o = nf at mq hnf1 ⊢
    generalize hdd : doneF l o = df at hq hlp hdl ⊢
    have w1 : IntKind.i64.wrap ((nf.s.length : Int) + (nf.t.length : Int)) = ((nf.s.length + nf.t.length : Nat) : Int) := by rw [IntKind.wrap_i64]; omega
    have e1 := le16k (nf.s.length + nf.t.length)
    have e2 := le16 df.length (z := 16) rfl
    generalize decide (nf.s.length + nf.t.length ≤ 16384) = B at e1 ⊢
    generalize decide (df.length ≤ 16) = C at e2 ⊢
    cases C with
    | true =>
      refine w_seq (w_rg ?_)
      refine s_plain (v := q) (σ' := τ2) (by simp only [go_sem, Nat.reduceEqDiff, Nat.reduceAdd, Nat.reduceLeDiff, g0]) ?_
      refine s_plain (v := q) (σ' := τ2) (by simp only [go_sem, Nat.reduceEqDiff, Nat.reduceAdd, Nat.reduceLeDiff, g0]) ?_
      refine s_plain (v := .sc (.int .i64 (df.length : Int))) (σ' := τ2) (by simp only [go_sem, Nat.reduceEqDiff, Nat.reduceAdd, Nat.reduceLeDiff, hlp, hdl]; first | done | rfl) ?_
      refine s_plain (v := .sc (.bool true)) (σ' := τ2) (by simp only [go_sem, Nat.reduceEqDiff, Nat.reduceAdd, Nat.reduceLeDiff, e2]) ?_
      refine s_plain (v := .sc (.bool true)) (σ' := τ2) (by simp only [go_sem, Nat.reduceEqDiff, Nat.reduceAdd, Nat.reduceLeDiff]) ?_
      refine s_guard (g := .sc (.bool true)) (by simp only [go_sem, Nat.reduceEqDiff, Nat.reduceAdd, Nat.reduceLeDiff]) ?_
      refine g_goT (v := .bx 2000010 (σ.c 2000010) 3 0 1) (σ' := τ2) (by simp only [go_sem, Nat.reduceEqDiff, Nat.reduceAdd, Nat.reduceLeDiff, g10]) ?_
      refine s_guard (g := .sc (.bool true)) (by simp only [go_sem, Nat.reduceEqDiff, Nat.reduceAdd, Nat.reduceLeDiff]) ?_
      refine g_goT (v := txt nf.s) (σ' := τ2) (by simp only [go_sem, Nat.reduceEqDiff, Nat.reduceAdd, Nat.reduceLeDiff, mq]) ?_
      refine s_guard (g := .sc (.bool true)) (by simp only [go_sem, Nat.reduceEqDiff, Nat.reduceAdd, Nat.reduceLeDiff]) ?_
      refine g_goT (v := .sc (.int .i64 (nf.s.length : Int))) (σ' := τ2) (by simp only [go_sem, Nat.reduceEqDiff, Nat.reduceAdd, Nat.reduceLeDiff, List.size_toArray]) ?_
      refine s_guard (g := .sc (.bool true)) (by simp only [go_sem, Nat.reduceEqDiff, Nat.reduceAdd, Nat.reduceLeDiff]) ?_
      refine g_goT (v := .bx 2000010 (σ.c 2000010) 3 0 2) (σ' := τ2) (by simp only [go_sem, Nat.reduceEqDiff, Nat.reduceAdd, Nat.reduceLeDiff, g10]) ?_
      refine s_guard (g := .sc (.bool true)) (by simp only [go_sem, Nat.reduceEqDiff, Nat.reduceAdd, Nat.reduceLeDiff]) ?_
      refine g_goT (v := txt nf.t) (σ' := τ2) (by simp only [go_sem, Nat.reduceEqDiff, Nat.reduceAdd, Nat.reduceLeDiff, mq]) ?_
      refine s_guard (g := .sc (.bool true)) (by simp only [go_sem, Nat.reduceEqDiff, Nat.reduceAdd, Nat.reduceLeDiff]) ?_
      refine g_goT (v := .sc (.int .i64 (nf.t.length : Int))) (σ' := τ2) (by simp only [go_sem, Nat.reduceEqDiff, Nat.reduceAdd, Nat.reduceLeDiff, List.size_toArray]) ?_
      refine s_guard (g := .sc (.bool true)) (by simp only [go_sem, Nat.reduceEqDiff, Nat.reduceAdd, Nat.reduceLeDiff]) ?_
      refine g_goT (v := .sc (.int .i64 ((nf.s.length + nf.t.length : Nat) : Int))) (σ' := τ2) (by simp only [go_sem, Nat.reduceEqDiff, Nat.reduceAdd, Nat.reduceLeDiff, w1]) ?_
      refine s_guard (g := .sc (.bool true)) (by simp only [go_sem, Nat.reduceEqDiff, Nat.reduceAdd, Nat.reduceLeDiff]) ?_
      refine g_goT (v := .sc (.bool B)) (σ' := τ2) (by simp only [go_sem, Nat.reduceEqDiff, Nat.reduceAdd, Nat.reduceLeDiff, e1]) ?_
      refine s_plain (v := .sc (.bool B)) (σ' := τ2) (by simp only [go_sem, Nat.reduceEqDiff, Nat.reduceAdd, Nat.reduceLeDiff]) ?_
      refine s_plain (v := q) (σ' := τ2) (by simp only [go_sem, Nat.reduceEqDiff, Nat.reduceAdd, Nat.reduceLeDiff]) ?_
      refine s_plain (v := .sc (.bool B)) (σ' := τ2) (by simp only [go_sem, Nat.reduceEqDiff, Nat.reduceAdd, Nat.reduceLeDiff]) ?_
      refine wo_nil (w_ret ?_)
      exact ⟨.inr rfl, .tu [q, .sc (.bool B)], by simp only [go_sem, Nat.reduceEqDiff, Nat.reduceAdd, Nat.reduceLeDiff, retOf, resOf], ⟨⟨q, rfl, hq⟩, kq⟩⟩
    | false =>
      refine w_seq (w_rg ?_)
      refine s_plain (v := q) (σ' := τ2) (by simp only [go_sem, Nat.reduceEqDiff, Nat.reduceAdd, Nat.reduceLeDiff, g0]) ?_
      refine s_plain (v := q) (σ' := τ2) (by simp only [go_sem, Nat.reduceEqDiff, Nat.reduceAdd, Nat.reduceLeDiff, g0]) ?_
      refine s_plain (v := .sc (.int .i64 (df.length : Int))) (σ' := τ2) (by simp only [go_sem, Nat.reduceEqDiff, Nat.reduceAdd, Nat.reduceLeDiff, hlp, hdl]; first | done | rfl) ?_
      refine s_plain (v := .sc (.bool false)) (σ' := τ2) (by simp only [go_sem, Nat.reduceEqDiff, Nat.reduceAdd, Nat.reduceLeDiff, e2]) ?_
      refine s_plain (v := .sc (.bool false)) (σ' := τ2) (by simp only [go_sem, Nat.reduceEqDiff, Nat.reduceAdd, Nat.reduceLeDiff]) ?_
      iterate 8 (refine s_guard (g := .sc (.bool false)) (by simp only [go_sem, Nat.reduceEqDiff, Nat.reduceAdd, Nat.reduceLeDiff]) ?_; refine g_skT ?_)
      refine s_plain (v := .sc (.bool false)) (σ' := τ2) (by simp only [go_sem, Nat.reduceEqDiff, Nat.reduceAdd, Nat.reduceLeDiff]) ?_
      refine s_plain (v := q) (σ' := τ2) (by simp only [go_sem, Nat.reduceEqDiff, Nat.reduceAdd, Nat.reduceLeDiff]) ?_
      refine s_plain (v := .sc (.bool false)) (σ' := τ2) (by simp only [go_sem, Nat.reduceEqDiff, Nat.reduceAdd, Nat.reduceLeDiff]) ?_
      refine wo_nil (w_ret ?_)
      exact ⟨.inr rfl, .tu [q, .sc (.bool false)], by simp only [go_sem, Nat.reduceEqDiff, Nat.reduceAdd, Nat.reduceLeDiff, retOf, resOf], ⟨⟨q, rfl, hq⟩, kq⟩⟩
theorem a267_3 (J : Has lja env) (D : Has ljd env) (O : Has ljb env) (G : Has ljf env) (G2 : Has ljg env) {l : List Fl} {o : Op9} (hw : RowW σ 3 p (fls l)) (hs : Srt l) (hl : l.length ≤ 900) (hsm : ∀ f ∈ l, f.Sm) (ho : o.Sm) (hF : Fresh σ)
    (hh : hasF l o.n = true) (hk3 : o.k = 3) :
    ∃ q σ', EV env 267 [p, .sc (.int .i64 (posF l o.n : Int)), .sc (.bool (hasF l o.n)), opV o] σ = some (.tu [q, .sc (.bool (roomF l o))], σ') ∧ RowW σ' 3 q (fls (doneF l o)) ∧ Kp (2000000 ≤ ·) σ σ' := by
  have hln := fls_len l
  have hle := posF_le l o.n
  obtain ⟨ok1, ok2⟩ := hw.ok
  have htn := theF_n l o.n
  have hts : (theF l o.n).s.length ≤ 4000000000 ∧ (theF l o.n).t.length ≤ 4000000000 := by
    unfold theF
    cases h : getF l o.n with
    | none => simp
    | some f => exact ⟨(hsm f ((getF_some hs).1 h).1).s, (hsm f ((getF_some hs).1 h).1).t⟩
  suffices h : ∃ r τ, EV env 267 [p, .sc (.int .i64 (posF l o.n : Int)), .sc (.bool (hasF l o.n)), opV o] σ = some (r, τ) ∧ DoneP σ (doneF l o) (roomF l o) r τ by
    obtain ⟨r, τ, h1, ⟨⟨q, rfl, h2⟩, h3⟩⟩ := h
    exact ⟨q, τ, h1, h2, h3⟩
  refine EV_wp' (σ := σ) (R := DoneP σ (doneF l o) (roomF l o)) (G2 (267, d267) (by simp [ljg])) rfl ?_
  unfold opV
  (repeat' first
    | refine w_seq ?_ | refine w_rg ?_ | refine wo_nil ?_ | refine g_skU ?_ | refine g_skT ?_ | refine g_skF ?_
    | ((first | apply s_plain | apply s_void | apply s_guard | apply g_goT | apply g_goF); · simp only [go_sem, Nat.reduceEqDiff, Nat.reduceAdd, Nat.reduceLeDiff, ok1, ok2, List.set_cons_succ]; (first | done | rfl))
    | ((first | apply g_T | apply g_F | apply g_gT | apply g_gF); · intro q1_; (first | intro q2_ | have q2_ := q1_); simp only [go_sem, Nat.reduceEqDiff, Nat.reduceAdd, Nat.reduceLeDiff, ok1, ok2, List.set_cons_succ, q1_, q2_]; (first | done | rfl))
    | fail
    )
  -- the file that is there, or none yet
  refine Wp.mono (Q := fun x fr τ => x = .normal ∧ τ.m 2000007 (σ.c 2000007) = some ⟨3, [.agg [.sc (.int .i64 o.k), txt o.n, txt o.d]], true, true⟩ ∧ τ.m 2000010 (σ.c 2000010) = some ⟨3, [fl (theF l o.n)], true, true⟩ ∧
    RowW τ 3 p (fls l) ∧ Kp (2000000 ≤ ·) σ τ ∧ fr 0 = p ∧ fr 1 = .sc (.int .i64 (posF l o.n : Int)) ∧ fr 7 = .bx 2000007 (σ.c 2000007) 3 0 0 ∧ fr 10 = .bx 2000010 (σ.c 2000010) 3 0 0) ?_ ?_
  · cases hh : hasF l o.n with
    | true =>
      obtain ⟨f0, q1, q2, q3⟩ := pos_at hs hh
      have hlt := (List.getElem?_eq_some_iff.1 q1).1
      have htf : theF l o.n = f0 := by unfold theF; rw [q3]; rfl
      rcases hw with ⟨rfl, hx⟩ | ⟨o1, g1, rfl, h3, h4⟩
      · have h0 : l.length = 0 := by rw [← hln, hx]; rfl
        omega
      · have e1 : (0 : Int) ≤ ((posF l o.n : Nat) : Int) ∧ ((posF l o.n : Nat) : Int) < ((fls l).length : Int) := by rw [hln]; omega
        have hne7 : ¬ (o1 = 2000007) := by omega
        have hne10 : ¬ (o1 = 2000010) := by omega
        have hy := fls_at q1
        unfold fl at hy
        rw [htf]
        (repeat' first
    | refine w_seq ?_ | refine w_rg ?_ | refine wo_nil ?_ | refine g_skU ?_ | refine g_skT ?_ | refine g_skF ?_
    | ((first | apply s_plain | apply s_void | apply s_guard | apply g_goT | apply g_goF); · simp only [go_sem, Nat.reduceEqDiff, Nat.reduceAdd, Nat.reduceLeDiff, e1, Int.toNat_natCast, hne7, hne10, false_and, h3, hy, List.set_cons_succ]; (first | done | rfl))
    | ((first | apply g_T | apply g_F | apply g_gT | apply g_gF); · intro q1_; (first | intro q2_ | have q2_ := q1_); simp only [go_sem, Nat.reduceEqDiff, Nat.reduceAdd, Nat.reduceLeDiff, e1, Int.toNat_natCast, hne7, hne10, false_and, h3, hy, List.set_cons_succ, q1_, q2_]; (first | done | rfl))
    | (apply w_condX; · simp only [go_sem, Nat.reduceEqDiff, Nat.reduceAdd, Nat.reduceLeDiff, e1, Int.toNat_natCast, hne7, hne10, false_and, h3, hy, List.set_cons_succ]; (first | done | rfl)); (first | refine wcd_T ?_ | refine wcd_F ?_)
    | refine w_skip ?_ | refine w_exit ?_ | refine w_ret ?_
    | fail
    )
        refine ⟨rfl, by simp only [go_sem, Nat.reduceEqDiff, Nat.reduceAdd, Nat.reduceLeDiff, List.set_cons_succ], by simp only [go_sem, Nat.reduceEqDiff, Nat.reduceAdd, Nat.reduceLeDiff, List.set_cons_succ, fl], ?_, ?_, by simp only [go_sem, Nat.reduceEqDiff, Nat.reduceAdd, Nat.reduceLeDiff], by simp only [go_sem, Nat.reduceEqDiff, Nat.reduceAdd, Nat.reduceLeDiff], by simp only [go_sem, Nat.reduceEqDiff, Nat.reduceAdd, Nat.reduceLeDiff], by simp only [go_sem, Nat.reduceEqDiff, Nat.reduceAdd, Nat.reduceLeDiff]⟩
        · exact ((((RowW.new (.inr ⟨o1, g1, rfl, h3, h4⟩) hF _ _).new (hF.new _ _) _ _).put (by decide) _).put (by decide) _)
        · exact ((((Kp.refl hF).new _ _).new _ _).put (x := ⟨3, [.agg [.sc (.string ⟨#[]⟩), .sc (.string ⟨#[]⟩), .sc (.string ⟨#[]⟩)]], true, true⟩) (by simp only [go_sem, Nat.reduceEqDiff, Nat.reduceAdd, Nat.reduceLeDiff]) (.inr (Nat.le_refl _)) _).put (x := ⟨3, [.agg [txt o.n, .sc (.string ⟨#[]⟩), .sc (.string ⟨#[]⟩)]], true, true⟩) (by simp only [go_sem, Nat.reduceEqDiff, Nat.reduceAdd, Nat.reduceLeDiff]) (.inr (Nat.le_refl _)) _
    | false =>
      have htf : theF l o.n = ⟨o.n, [], []⟩ := by
        unfold hasF at hh
        unfold theF
        rw [show getF l o.n = none by simpa using hh]; rfl
      rw [htf]
      (repeat' first
    | refine w_seq ?_ | refine w_rg ?_ | refine wo_nil ?_ | refine g_skU ?_ | refine g_skT ?_ | refine g_skF ?_
    | ((first | apply s_plain | apply s_void | apply s_guard | apply g_goT | apply g_goF); · simp only [go_sem, Nat.reduceEqDiff, Nat.reduceAdd, Nat.reduceLeDiff, List.set_cons_succ]; (first | done | rfl))
    | ((first | apply g_T | apply g_F | apply g_gT | apply g_gF); · intro q1_; (first | intro q2_ | have q2_ := q1_); simp only [go_sem, Nat.reduceEqDiff, Nat.reduceAdd, Nat.reduceLeDiff, List.set_cons_succ, q1_, q2_]; (first | done | rfl))
    | (apply w_condX; · simp only [go_sem, Nat.reduceEqDiff, Nat.reduceAdd, Nat.reduceLeDiff, List.set_cons_succ]; (first | done | rfl)); (first | refine wcd_T ?_ | refine wcd_F ?_)
    | refine w_skip ?_ | refine w_exit ?_ | refine w_ret ?_
    | fail
    )
      refine ⟨rfl, by simp only [go_sem, Nat.reduceEqDiff, Nat.reduceAdd, Nat.reduceLeDiff, List.set_cons_succ], by simp only [go_sem, Nat.reduceEqDiff, Nat.reduceAdd, Nat.reduceLeDiff, List.set_cons_succ, fl]; first | done | rfl, ?_, ?_, by simp only [go_sem, Nat.reduceEqDiff, Nat.reduceAdd, Nat.reduceLeDiff], by simp only [go_sem, Nat.reduceEqDiff, Nat.reduceAdd, Nat.reduceLeDiff], by simp only [go_sem, Nat.reduceEqDiff, Nat.reduceAdd, Nat.reduceLeDiff], by simp only [go_sem, Nat.reduceEqDiff, Nat.reduceAdd, Nat.reduceLeDiff]⟩
      · exact ((hw.new hF _ _).new (hF.new _ _) _ _).put (by decide) _
      · exact (((Kp.refl hF).new _ _).new _ _).put (x := ⟨3, [.agg [.sc (.string ⟨#[]⟩), .sc (.string ⟨#[]⟩), .sc (.string ⟨#[]⟩)]], true, true⟩) (by simp only [go_sem, Nat.reduceEqDiff, Nat.reduceAdd, Nat.reduceLeDiff]) (.inr (Nat.le_refl _)) _
  rintro x fr1 τ ⟨rfl, m7, m10, hw1, kp, f0, f1, f7, f10⟩
  try show Wp _ _ _ _ _
  (repeat' first
    | refine w_seq ?_ | refine w_rg ?_ | refine wo_nil ?_ | refine g_skU ?_ | refine g_skT ?_ | refine g_skF ?_
    | ((first | apply s_plain | apply s_void | apply s_guard | apply g_goT | apply g_goF); · simp only [go_sem, Nat.reduceEqDiff, Nat.reduceAdd, Nat.reduceLeDiff, f7, m7]; (first | done | rfl))
    | ((first | apply g_T | apply g_F | apply g_gT | apply g_gF); · intro q1_; (first | intro q2_ | have q2_ := q1_); simp only [go_sem, Nat.reduceEqDiff, Nat.reduceAdd, Nat.reduceLeDiff, f7, m7, q1_, q2_]; (first | done | rfl))
    | fail
    )
  have hlt10 : σ.c 2000010 < τ.c 2000010 := kp.f _ _ (by rw [m10]; rfl)
  refine Wp.mono (Q := SwP σ (doneF l o) (newF l o)) ?_ ?_
  · refine w_block ?_
    (repeat' first
    | refine w_seq ?_ | refine w_rg ?_ | refine wo_nil ?_ | refine g_skU ?_ | refine g_skT ?_ | refine g_skF ?_
    | ((first | apply s_plain | apply s_void | apply s_guard | apply g_goT | apply g_goF); · simp only [go_sem, Nat.reduceEqDiff, Nat.reduceAdd, Nat.reduceLeDiff]; (first | done | rfl))
    | ((first | apply g_T | apply g_F | apply g_gT | apply g_gF); · intro q1_; (first | intro q2_ | have q2_ := q1_); simp only [go_sem, Nat.reduceEqDiff, Nat.reduceAdd, Nat.reduceLeDiff, q1_, q2_]; (first | done | rfl))
    | fail
    )
    refine w_block ?_
    (repeat' first
    | refine w_seq ?_ | refine w_rg ?_ | refine wo_nil ?_ | refine g_skU ?_ | refine g_skT ?_ | refine g_skF ?_
    | ((first | apply s_plain | apply s_void | apply s_guard | apply g_goT | apply g_goF); · simp only [go_sem, Nat.reduceEqDiff, Nat.reduceAdd, Nat.reduceLeDiff]; (first | done | rfl))
    | ((first | apply g_T | apply g_F | apply g_gT | apply g_gF); · intro q1_; (first | intro q2_ | have q2_ := q1_); simp only [go_sem, Nat.reduceEqDiff, Nat.reduceAdd, Nat.reduceLeDiff, q1_, q2_]; (first | done | rfl))
    | fail
    )
    refine w_block ?_
    (repeat' first
    | refine w_seq ?_ | refine w_rg ?_ | refine wo_nil ?_ | refine g_skU ?_ | refine g_skT ?_ | refine g_skF ?_
    | ((first | apply s_plain | apply s_void | apply s_guard | apply g_goT | apply g_goF); · simp only [go_sem, Nat.reduceEqDiff, Nat.reduceAdd, Nat.reduceLeDiff]; (first | done | rfl))
    | ((first | apply g_T | apply g_F | apply g_gT | apply g_gF); · intro q1_; (first | intro q2_ | have q2_ := q1_); simp only [go_sem, Nat.reduceEqDiff, Nat.reduceAdd, Nat.reduceLeDiff, q1_, q2_]; (first | done | rfl))
    | fail
    )
    refine w_block ?_
    (repeat' first
    | refine w_seq ?_ | refine w_rg ?_ | refine wo_nil ?_ | refine g_skU ?_ | refine g_skT ?_ | refine g_skF ?_
    | ((first | apply s_plain | apply s_void | apply s_guard | apply g_goT | apply g_goF); · simp only [go_sem, Nat.reduceEqDiff, Nat.reduceAdd, Nat.reduceLeDiff]; (first | done | rfl))
    | ((first | apply g_T | apply g_F | apply g_gT | apply g_gF); · intro q1_; (first | intro q2_ | have q2_ := q1_); simp only [go_sem, Nat.reduceEqDiff, Nat.reduceAdd, Nat.reduceLeDiff, q1_, q2_]; (first | done | rfl))
    | fail
    )
    refine w_block ?_
    (repeat' first
    | refine w_seq ?_ | refine w_rg ?_ | refine wo_nil ?_ | refine g_skU ?_ | refine g_skT ?_ | refine g_skF ?_
    | ((first | apply s_plain | apply s_void | apply s_guard | apply g_goT | apply g_goF); · simp only [go_sem, Nat.reduceEqDiff, Nat.reduceAdd, Nat.reduceLeDiff]; (first | done | rfl))
    | ((first | apply g_T | apply g_F | apply g_gT | apply g_gF); · intro q1_; (first | intro q2_ | have q2_ := q1_); simp only [go_sem, Nat.reduceEqDiff, Nat.reduceAdd, Nat.reduceLeDiff, q1_, q2_]; (first | done | rfl))
    | fail
    )
    rw [hk3] at m7 ⊢
    obtain ⟨f0', q1, q2, q3⟩ := pos_at hs hh
    have hlt := (List.getElem?_eq_some_iff.1 q1).1
    have hnf : newF l o = ⟨o.d, (theF l o.n).s, (theF l o.n).t⟩ := by unfold newF; rw [if_neg (by omega), if_neg (by omega), if_pos hk3]
    have hdf : doneF l o = putF (delF' l o.n) (newF l o) := by unfold doneF; rw [if_neg (by omega), if_pos hk3]
    rw [hdf, hnf]
    unfold fl at m10
    have d1 : ((3 : Int) == 1) = false := rfl
    have d2 : ((3 : Int) == 2) = false := rfl
    have w1 : IntKind.i64.wrap ((posF l o.n : Int) + 1) = ((posF l o.n + 1 : Nat) : Int) := by rw [IntKind.wrap_i64]; omega
    (repeat' first
    | refine w_seq ?_ | refine w_rg ?_ | refine wo_nil ?_ | refine g_skU ?_ | refine g_skT ?_ | refine g_skF ?_
    | ((first | apply s_plain | apply s_void | apply s_guard | apply g_goT | apply g_goF); · simp only [go_sem, Nat.reduceEqDiff, Nat.reduceAdd, Nat.reduceLeDiff, beq_self_eq_true, d1, d2]; (first | done | rfl))
    | ((first | apply g_T | apply g_F | apply g_gT | apply g_gF); · intro q1_; (first | intro q2_ | have q2_ := q1_); simp only [go_sem, Nat.reduceEqDiff, Nat.reduceAdd, Nat.reduceLeDiff, beq_self_eq_true, d1, d2, q1_, q2_]; (first | done | rfl))
    | (apply w_condX; · simp only [go_sem, Nat.reduceEqDiff, Nat.reduceAdd, Nat.reduceLeDiff, beq_self_eq_true, d1, d2]; (first | done | rfl)); (first | refine wcd_T ?_ | refine wcd_F ?_)
    | refine w_skip ?_ | refine w_exit ?_ | refine w_ret ?_
    | fail
    )
    try simp only [if_true, if_false, Nat.reduceEqDiff, reduceCtorEq]
    try show Wp _ _ _ _ _
    (repeat' first
    | refine w_seq ?_ | refine w_rg ?_ | refine wo_nil ?_ | refine g_skU ?_ | refine g_skT ?_ | refine g_skF ?_
    | ((first | apply s_plain | apply s_void | apply s_guard | apply g_goT | apply g_goF); · simp only [go_sem, Nat.reduceEqDiff, Nat.reduceAdd, Nat.reduceLeDiff, f0, f7, f10, m7, m10, List.size_toArray, List.set_cons_succ]; (first | done | rfl))
    | ((first | apply g_T | apply g_F | apply g_gT | apply g_gF); · intro q1_; (first | intro q2_ | have q2_ := q1_); simp only [go_sem, Nat.reduceEqDiff, Nat.reduceAdd, Nat.reduceLeDiff, f0, f7, f10, m7, m10, List.size_toArray, List.set_cons_succ, q1_, q2_]; (first | done | rfl))
    | (apply w_condX; · simp only [go_sem, Nat.reduceEqDiff, Nat.reduceAdd, Nat.reduceLeDiff, f0, f7, f10, m7, m10, List.size_toArray, List.set_cons_succ]; (first | done | rfl)); (first | refine wcd_T ?_ | refine wcd_F ?_)
    | refine w_skip ?_ | refine w_exit ?_ | refine w_ret ?_
    | fail
    )
    try simp only [if_true, if_false, Nat.reduceEqDiff, reduceCtorEq]
    try show Wp _ _ _ _ _
    (repeat' first
    | refine w_seq ?_ | refine w_rg ?_ | refine wo_nil ?_ | refine g_skU ?_ | refine g_skT ?_ | refine g_skF ?_
    | ((first | apply s_plain | apply s_void | apply s_guard | apply g_goT | apply g_goF); · simp only [go_sem, Nat.reduceEqDiff, Nat.reduceAdd, Nat.reduceLeDiff, f0, f1, w1]; (first | done | rfl))
    | ((first | apply g_T | apply g_F | apply g_gT | apply g_gF); · intro q1_; (first | intro q2_ | have q2_ := q1_); simp only [go_sem, Nat.reduceEqDiff, Nat.reduceAdd, Nat.reduceLeDiff, f0, f1, w1, q1_, q2_]; (first | done | rfl))
    | fail
    )
    have kq := kp.put m10 (.inr (Nat.le_refl _)) (some ⟨3, [.agg [txt o.d, txt (theF l o.n).s, txt (theF l o.n).t]], true, true⟩)
    obtain ⟨q, τ3, h1, h2, h3⟩ := e_del (J (278, .prim (delF 3)) (by simp [lja])) (hw1.put (o := 2000010) (g := σ.c 2000010) (by decide) (some ⟨3, [.agg [txt o.d, txt (theF l o.n).s, txt (theF l o.n).t]], true, true⟩)) (i := posF l o.n) (by rw [hln]; exact hlt) kq.f
    refine s_plain (v := q) (σ' := τ3) (by simp only [go_sem, Nat.reduceEqDiff, Nat.reduceAdd, Nat.reduceLeDiff, f0, f1, w1]; exact h1) ?_
    have k3 := kq.trans h3
    have hlt7 : σ.c 2000007 < τ.c 2000007 := kp.f _ _ (by rw [m7]; rfl)
    have m3 : τ3.m 2000010 (σ.c 2000010) = some ⟨3, [.agg [txt o.d, txt (theF l o.n).s, txt (theF l o.n).t]], true, true⟩ := by
      rw [h3.m 2000010 (σ.c 2000010) (by decide) hlt10]; simp only [go_sem, Nat.reduceEqDiff, Nat.reduceAdd, Nat.reduceLeDiff]
    have m37 : τ3.m 2000007 (σ.c 2000007) = some ⟨3, [.agg [.sc (.int .i64 3), txt o.n, txt o.d]], true, true⟩ := by
      rw [h3.m 2000007 (σ.c 2000007) (by decide) hlt7]; simp only [go_sem, Nat.reduceEqDiff, Nat.reduceAdd, Nat.reduceLeDiff, m7]
    have hdl : (fls l).take (posF l o.n) ++ (fls l).drop (posF l o.n + 1) = fls (delF' l o.n) := by
      unfold delF'
      simp only [fls, List.map_append, List.map_take, List.map_drop]
    rw [hdl] at h2
    have hlt103 : σ.c 2000010 < τ3.c 2000010 := k3.f _ _ (by rw [m3]; rfl)
    cases hnq : (!(o.d == o.n)) with
    | true =>
      (repeat' first
    | refine w_seq ?_ | refine w_rg ?_ | refine wo_nil ?_ | refine g_skU ?_ | refine g_skT ?_ | refine g_skF ?_
    | ((first | apply s_plain | apply s_void | apply s_guard | apply g_goT | apply g_goF); · simp only [go_sem, Nat.reduceEqDiff, Nat.reduceAdd, Nat.reduceLeDiff, f7, f10, m3, m37, hnq]; (first | done | rfl))
    | ((first | apply g_T | apply g_F | apply g_gT | apply g_gF); · intro q1_; (first | intro q2_ | have q2_ := q1_); simp only [go_sem, Nat.reduceEqDiff, Nat.reduceAdd, Nat.reduceLeDiff, f7, f10, m3, m37, hnq, q1_, q2_]; (first | done | rfl))
    | (apply w_condX; · simp only [go_sem, Nat.reduceEqDiff, Nat.reduceAdd, Nat.reduceLeDiff, f7, f10, m3, m37, hnq]; (first | done | rfl)); (first | refine wcd_T ?_ | refine wcd_F ?_)
    | refine w_skip ?_ | refine w_exit ?_ | refine w_ret ?_
    | fail
    )
      obtain ⟨q2, τ4, h4, h5, h6⟩ := a277 J D O G (f := ⟨o.d, (theF l o.n).s, (theF l o.n).t⟩) h2 (delF_srt hs o.n) (by have := @delF_len l o.n; omega) k3.f
      refine s_plain (v := q2) (σ' := τ4) (by simp only [go_sem, Nat.reduceEqDiff, Nat.reduceAdd, Nat.reduceLeDiff]; exact h4) ?_
      have m4 : τ4.m 2000010 (σ.c 2000010) = some ⟨3, [.agg [txt o.d, txt (theF l o.n).s, txt (theF l o.n).t]], true, true⟩ := by
        rw [h6.m 2000010 (σ.c 2000010) (by decide) hlt103]; exact m3
      (repeat' first
    | refine w_seq ?_ | refine w_rg ?_ | refine wo_nil ?_ | refine g_skU ?_ | refine g_skT ?_ | refine g_skF ?_
    | ((first | apply s_plain | apply s_void | apply s_guard | apply g_goT | apply g_goF); · simp only [go_sem, Nat.reduceEqDiff, Nat.reduceAdd, Nat.reduceLeDiff]; (first | done | rfl))
    | ((first | apply g_T | apply g_F | apply g_gT | apply g_gF); · intro q1_; (first | intro q2_ | have q2_ := q1_); simp only [go_sem, Nat.reduceEqDiff, Nat.reduceAdd, Nat.reduceLeDiff, q1_, q2_]; (first | done | rfl))
    | (apply w_condX; · simp only [go_sem, Nat.reduceEqDiff, Nat.reduceAdd, Nat.reduceLeDiff]; (first | done | rfl)); (first | refine wcd_T ?_ | refine wcd_F ?_)
    | refine w_skip ?_ | refine w_exit ?_ | refine w_ret ?_
    | fail
    )
      try simp only [if_true, if_false, Nat.reduceEqDiff, reduceCtorEq]
      exact ⟨rfl, ⟨q2, by simp only [go_sem, Nat.reduceEqDiff, Nat.reduceAdd, Nat.reduceLeDiff], h5⟩, k3.trans h6, m4, by simp only [go_sem, Nat.reduceEqDiff, Nat.reduceAdd, Nat.reduceLeDiff, f10]⟩
    | false =>
      (repeat' first
    | refine w_seq ?_ | refine w_rg ?_ | refine wo_nil ?_ | refine g_skU ?_ | refine g_skT ?_ | refine g_skF ?_
    | ((first | apply s_plain | apply s_void | apply s_guard | apply g_goT | apply g_goF); · simp only [go_sem, Nat.reduceEqDiff, Nat.reduceAdd, Nat.reduceLeDiff, f7, f10, m3, m37, hnq, beq_self_eq_true]; (first | done | rfl))
    | ((first | apply g_T | apply g_F | apply g_gT | apply g_gF); · intro q1_; (first | intro q2_ | have q2_ := q1_); simp only [go_sem, Nat.reduceEqDiff, Nat.reduceAdd, Nat.reduceLeDiff, f7, f10, m3, m37, hnq, beq_self_eq_true, q1_, q2_]; (first | done | rfl))
    | (apply w_condX; · simp only [go_sem, Nat.reduceEqDiff, Nat.reduceAdd, Nat.reduceLeDiff, f7, f10, m3, m37, hnq, beq_self_eq_true]; (first | done | rfl)); (first | refine wcd_T ?_ | refine wcd_F ?_)
    | refine w_skip ?_ | refine w_exit ?_ | refine w_ret ?_
    | fail
    )
      obtain ⟨q2, τ4, h4, h5, h6⟩ := a277 J D O G (f := ⟨o.d, (theF l o.n).s, (theF l o.n).t⟩) h2 (delF_srt hs o.n) (by have := @delF_len l o.n; omega) k3.f
      refine s_plain (v := q2) (σ' := τ4) (by simp only [go_sem, Nat.reduceEqDiff, Nat.reduceAdd, Nat.reduceLeDiff]; exact h4) ?_
      have m4 : τ4.m 2000010 (σ.c 2000010) = some ⟨3, [.agg [txt o.d, txt (theF l o.n).s, txt (theF l o.n).t]], true, true⟩ := by
        rw [h6.m 2000010 (σ.c 2000010) (by decide) hlt103]; exact m3
      (repeat' first
    | refine w_seq ?_ | refine w_rg ?_ | refine wo_nil ?_ | refine g_skU ?_ | refine g_skT ?_ | refine g_skF ?_
    | ((first | apply s_plain | apply s_void | apply s_guard | apply g_goT | apply g_goF); · simp only [go_sem, Nat.reduceEqDiff, Nat.reduceAdd, Nat.reduceLeDiff]; (first | done | rfl))
    | ((first | apply g_T | apply g_F | apply g_gT | apply g_gF); · intro q1_; (first | intro q2_ | have q2_ := q1_); simp only [go_sem, Nat.reduceEqDiff, Nat.reduceAdd, Nat.reduceLeDiff, q1_, q2_]; (first | done | rfl))
    | (apply w_condX; · simp only [go_sem, Nat.reduceEqDiff, Nat.reduceAdd, Nat.reduceLeDiff]; (first | done | rfl)); (first | refine wcd_T ?_ | refine wcd_F ?_)
    | refine w_skip ?_ | refine w_exit ?_ | refine w_ret ?_
    | fail
    )
      try simp only [if_true, if_false, Nat.reduceEqDiff, reduceCtorEq]
      exact ⟨rfl, ⟨q2, by simp only [go_sem, Nat.reduceEqDiff, Nat.reduceAdd, Nat.reduceLeDiff], h5⟩, k3.trans h6, m4, by simp only [go_sem, Nat.reduceEqDiff, Nat.reduceAdd, Nat.reduceLeDiff, f10]⟩
  · rintro x fr2 τ2 ⟨rfl, ⟨q, g0, hq⟩, kq, mq, g10⟩
    try show Wp _ _ _ _ _
    have hlp := hq.lenP
    have hdl := fls_len (doneF l o)
    obtain ⟨ok3, ok4⟩ := hq.ok
    unfold fl at mq
    have hnf1 := newF_le hts.1 hts.2 ho.d
    have hroom : roomF l o = (decide ((doneF l o).length ≤ 16) && decide ((newF l o).s.length + (newF l o).t.length ≤ 16384)) := rfl
    rw [hroom]
    clear hroom hw1 m7 m10 htn hts
    generalize newF l o = nf at mq hnf1 ⊢
    generalize hdd : doneF l o = df at hq hlp hdl ⊢
    have w1 : IntKind.i64.wrap ((nf.s.length : Int) + (nf.t.length : Int)) = ((nf.s.length + nf.t.length : Nat) : Int) := by rw [IntKind.wrap_i64]; omega
    have e1 := le16k (nf.s.length + nf.t.length)
    have e2 := le16 df.length (z := 16) rfl
    generalize decide (nf.s.length + nf.t.length ≤ 16384) = B at e1 ⊢
    generalize decide (df.length ≤ 16) = C at e2 ⊢
    cases C with
    | true =>
      refine w_seq (w_rg ?_)
      refine s_plain (v := q) (σ' := τ2) (by simp only [go_sem, Nat.reduceEqDiff, Nat.reduceAdd, Nat.reduceLeDiff, g0]) ?_
      refine s_plain (v := q) (σ' := τ2) (by simp only [go_sem, Nat.reduceEqDiff, Nat.reduceAdd, Nat.reduceLeDiff, g0]) ?_
      refine s_plain (v := .sc (.int .i64 (df.length : Int))) (σ' := τ2) (by simp only [go_sem, Nat.reduceEqDiff, Nat.reduceAdd, Nat.reduceLeDiff, hlp, hdl]; first | done | rfl) ?_
      refine s_plain (v := .sc (.bool true)) (σ' := τ2) (by simp only [go_sem, Nat.reduceEqDiff, Nat.reduceAdd, Nat.reduceLeDiff, e2]) ?_
      refine s_plain (v := .sc (.bool true)) (σ' := τ2) (by simp only [go_sem, Nat.reduceEqDiff, Nat.reduceAdd, Nat.reduceLeDiff]) ?_
      refine s_guard (g := .sc (.bool true)) (by simp only [go_sem, Nat.reduceEqDiff, Nat.reduceAdd, Nat.reduceLeDiff]) ?_
      refine g_goT (v := .bx 2000010 (σ.c 2000010) 3 0 1) (σ' := τ2) (by simp only [go_sem, Nat.reduceEqDiff, Nat.reduceAdd, Nat.reduceLeDiff, g10]) ?_
      refine s_guard (g := .sc (.bool true)) (by simp only [go_sem, Nat.reduceEqDiff, Nat.reduceAdd, Nat.reduceLeDiff]) ?_
      refine g_goT (v := txt nf.s) (σ' := τ2) (by simp only [go_sem, Nat.reduceEqDiff, Nat.reduceAdd, Nat.reduceLeDiff, mq]) ?_
      refine s_guard (g := .sc (.bool true)) (by simp only [go_sem, Nat.reduceEqDiff, Nat.reduceAdd, Nat.reduceLeDiff]) ?_
      refine g_goT (v := .sc (.int .i64 (nf.s.length : Int))) (σ' := τ2) (by simp only [go_sem, Nat.reduceEqDiff, Nat.reduceAdd, Nat.reduceLeDiff, List.size_toArray]) ?_
      refine s_guard (g := .sc (.bool true)) (by simp only [go_sem, Nat.reduceEqDiff, Nat.reduceAdd, Nat.reduceLeDiff]) ?_
      refine g_goT (v := .bx 2000010 (σ.c 2000010) 3 0 2) (σ' := τ2) (by simp only [go_sem, Nat.reduceEqDiff, Nat.reduceAdd, Nat.reduceLeDiff, g10]) ?_
      refine s_guard (g := .sc (.bool true)) (by simp only [go_sem, Nat.reduceEqDiff, Nat.reduceAdd, Nat.reduceLeDiff]) ?_
      refine g_goT (v := txt nf.t) (σ' := τ2) (by simp only [go_sem, Nat.reduceEqDiff, Nat.reduceAdd, Nat.reduceLeDiff, mq]) ?_
      refine s_guard (g := .sc (.bool true)) (by simp only [go_sem, Nat.reduceEqDiff, Nat.reduceAdd, Nat.reduceLeDiff]) ?_
      refine g_goT (v := .sc (.int .i64 (nf.t.length : Int))) (σ' := τ2) (by simp only [go_sem, Nat.reduceEqDiff, Nat.reduceAdd, Nat.reduceLeDiff, List.size_toArray]) ?_
      refine s_guard (g := .sc (.bool true)) (by simp only [go_sem, Nat.reduceEqDiff, Nat.reduceAdd, Nat.reduceLeDiff]) ?_
      refine g_goT (v := .sc (.int .i64 ((nf.s.length + nf.t.length : Nat) : Int))) (σ' := τ2) (by simp only [go_sem, Nat.reduceEqDiff, Nat.reduceAdd, Nat.reduceLeDiff, w1]) ?_
      refine s_guard (g := .sc (.bool true)) (by simp only [go_sem, Nat.reduceEqDiff, Nat.reduceAdd, Nat.reduceLeDiff]) ?_
      refine g_goT (v := .sc (.bool B)) (σ' := τ2) (by simp only [go_sem, Nat.reduceEqDiff, Nat.reduceAdd, Nat.reduceLeDiff, e1]) ?_
      refine s_plain (v := .sc (.bool B)) (σ' := τ2) (by simp only [go_sem, Nat.reduceEqDiff, Nat.reduceAdd, Nat.reduceLeDiff]) ?_
      refine s_plain (v := q) (σ' := τ2) (by simp only [go_sem, Nat.reduceEqDiff, Nat.reduceAdd, Nat.reduceLeDiff]) ?_
      refine s_plain (v := .sc (.bool B)) (σ' := τ2) (by simp only [go_sem, Nat.reduceEqDiff, Nat.reduceAdd, Nat.reduceLeDiff]) ?_
      refine wo_nil (w_ret ?_)
      exact ⟨.inr rfl, .tu [q, .sc (.bool B)], by simp only [go_sem, Nat.reduceEqDiff, Nat.reduceAdd, Nat.reduceLeDiff, retOf, resOf], ⟨⟨q, rfl, hq⟩, kq⟩⟩
    | false =>
      refine w_seq (w_rg ?_)
      refine s_plain (v := q) (σ' := τ2) (by simp only [go_sem, Nat.reduceEqDiff, Nat.reduceAdd, Nat.reduceLeDiff, g0]) ?_
      refine s_plain (v := q) (σ' := τ2) (by simp only [go_sem, Nat.reduceEqDiff, Nat.reduceAdd, Nat.reduceLeDiff, g0]) ?_
      refine s_plain (v := .sc (.int .i64 (df.length : Int))) (σ' := τ2) (by simp only [go_sem, Nat.reduceEqDiff, Nat.reduceAdd, Nat.reduceLeDiff, hlp, hdl]; first | done | rfl) ?_
      refine s_plain (v := .sc (.bool false)) (σ' := τ2) (by simp only [go_sem, Nat.reduceEqDiff, Nat.reduceAdd, Nat.reduceLeDiff, e2]) ?_
      refine s_plain (v := .sc (.bool false)) (σ' := τ2) (by simp only [go_sem, Nat.reduceEqDiff, Nat.reduceAdd, Nat.reduceLeDiff]) ?_
      iterate 8 (refine s_guard (g := .sc (.bool false)) (by simp only [go_sem, Nat.reduceEqDiff, Nat.reduceAdd, Nat.reduceLeDiff]) ?_; refine g_skT ?_)
      refine s_plain (v := .sc (.bool false)) (σ' := τ2) (by simp only [go_sem, Nat.reduceEqDiff, Nat.reduceAdd, Nat.reduceLeDiff]) ?_
      refine s_plain (v := q) (σ' := τ2) (by simp only [go_sem, Nat.reduceEqDiff, Nat.reduceAdd, Nat.reduceLeDiff]) ?_
      refine s_plain (v := .sc (.bool false)) (σ' := τ2) (by simp only [go_sem, Nat.reduceEqDiff, Nat.reduceAdd, Nat.reduceLeDiff]) ?_
      refine wo_nil (w_ret ?_)
      exact ⟨.inr rfl, .tu [q, .sc (.bool false)], by simp only [go_sem, Nat.reduceEqDiff, Nat.reduceAdd, Nat.reduceLeDiff, retOf, resOf], ⟨⟨q, rfl, hq⟩, kq⟩⟩
theorem a267_4 (J : Has lja env) (D : Has ljd env) (O : Has ljb env) (G : Has ljf env) (G2 : Has ljg env) {l : List Fl} {o : Op9} (hw : RowW σ 3 p (fls l)) (hs : Srt l) (hl : l.length ≤ 900) (hsm : ∀ f ∈ l, f.Sm) (ho : o.Sm) (hF : Fresh σ)
    (hh : hasF l o.n = true) (hk4 : o.k = 4) :
    ∃ q σ', EV env 267 [p, .sc (.int .i64 (posF l o.n : Int)), .sc (.bool (hasF l o.n)), opV o] σ = some (.tu [q, .sc (.bool (roomF l o))], σ') ∧ RowW σ' 3 q (fls (doneF l o)) ∧ Kp (2000000 ≤ ·) σ σ' := by
  have hln := fls_len l
  have hle := posF_le l o.n
  obtain ⟨ok1, ok2⟩ := hw.ok
  have htn := theF_n l o.n
  have hts : (theF l o.n).s.length ≤ 4000000000 ∧ (theF l o.n).t.length ≤ 4000000000 := by
    unfold theF
    cases h : getF l o.n with
    | none => simp
    | some f => exact ⟨(hsm f ((getF_some hs).1 h).1).s, (hsm f ((getF_some hs).1 h).1).t⟩
  suffices h : ∃ r τ, EV env 267 [p, .sc (.int .i64 (posF l o.n : Int)), .sc (.bool (hasF l o.n)), opV o] σ = some (r, τ) ∧ DoneP σ (doneF l o) (roomF l o) r τ by
    obtain ⟨r, τ, h1, ⟨⟨q, rfl, h2⟩, h3⟩⟩ := h
    exact ⟨q, τ, h1, h2, h3⟩
  refine EV_wp' (σ := σ) (R := DoneP σ (doneF l o) (roomF l o)) (G2 (267, d267) (by simp [ljg])) rfl ?_
  unfold opV
  (repeat' first
    | refine w_seq ?_ | refine w_rg ?_ | refine wo_nil ?_ | refine g_skU ?_ | refine g_skT ?_ | refine g_skF ?_
    | ((first | apply s_plain | apply s_void | apply s_guard | apply g_goT | apply g_goF); · simp only [go_sem, Nat.reduceEqDiff, Nat.reduceAdd, Nat.reduceLeDiff, ok1, ok2, List.set_cons_succ]; (first | done | rfl))
    | ((first | apply g_T | apply g_F | apply g_gT | apply g_gF); · intro q1_; (first | intro q2_ | have q2_ := q1_); simp only [go_sem, Nat.reduceEqDiff, Nat.reduceAdd, Nat.reduceLeDiff, ok1, ok2, List.set_cons_succ, q1_, q2_]; (first | done | rfl))
    | fail
    )
  -- the file that is there, or none yet
  refine Wp.mono (Q := fun x fr τ => x = .normal ∧ τ.m 2000007 (σ.c 2000007) = some ⟨3, [.agg [.sc (.int .i64 o.k), txt o.n, txt o.d]], true, true⟩ ∧ τ.m 2000010 (σ.c 2000010) = some ⟨3, [fl (theF l o.n)], true, true⟩ ∧
    RowW τ 3 p (fls l) ∧ Kp (2000000 ≤ ·) σ τ ∧ fr 0 = p ∧ fr 1 = .sc (.int .i64 (posF l o.n : Int)) ∧ fr 7 = .bx 2000007 (σ.c 2000007) 3 0 0 ∧ fr 10 = .bx 2000010 (σ.c 2000010) 3 0 0) ?_ ?_
  · cases hh : hasF l o.n with
    | true =>
      obtain ⟨f0, q1, q2, q3⟩ := pos_at hs hh
      have hlt := (List.getElem?_eq_some_iff.1 q1).1
      have htf : theF l o.n = f0 := by unfold theF; rw [q3]; rfl
      rcases hw with ⟨rfl, hx⟩ | ⟨o1, g1, rfl, h3, h4⟩
      · have h0 : l.length = 0 := by rw [← hln, hx]; rfl
        omega
      · have e1 : (0 : Int) ≤ ((posF l o.n : Nat) : Int) ∧ ((posF l o.n : Nat) : Int) < ((fls l).length : Int) := by rw [hln]; omega
        have hne7 : ¬ (o1 = 2000007) := by omega
        have hne10 : ¬ (o1 = 2000010) := by omega
        have hy := fls_at q1
        unfold fl at hy
        rw [htf]
        (repeat' first
    | refine w_seq ?_ | refine w_rg ?_ | refine wo_nil ?_ | refine g_skU ?_ | refine g_skT ?_ | refine g_skF ?_
    | ((first | apply s_plain | apply s_void | apply s_guard | apply g_goT | apply g_goF); · simp only [go_sem, Nat.reduceEqDiff, Nat.reduceAdd, Nat.reduceLeDiff, e1, Int.toNat_natCast, hne7, hne10, false_and, h3, hy, List.set_cons_succ]; (first | done | rfl))
    | ((first | apply g_T | apply g_F | apply g_gT | apply g_gF); · intro q1_; (first | intro q2_ | have q2_ := q1_); simp only [go_sem, Nat.reduceEqDiff, Nat.reduceAdd, Nat.reduceLeDiff, e1, Int.toNat_natCast, hne7, hne10, false_and, h3, hy, List.set_cons_succ, q1_, q2_]; (first | done | rfl))
    | (apply w_condX; · simp only [go_sem, Nat.reduceEqDiff, Nat.reduceAdd, Nat.reduceLeDiff, e1, Int.toNat_natCast, hne7, hne10, false_and, h3, hy, List.set_cons_succ]; (first | done | rfl)); (first | refine wcd_T ?_ | refine wcd_F ?_)
    | refine w_skip ?_ | refine w_exit ?_ | refine w_ret ?_
    | fail
    )
        refine ⟨rfl, by simp only [go_sem, Nat.reduceEqDiff, Nat.reduceAdd, Nat.reduceLeDiff, List.set_cons_succ], by simp only [go_sem, Nat.reduceEqDiff, Nat.reduceAdd, Nat.reduceLeDiff, List.set_cons_succ, fl], ?_, ?_, by simp only [go_sem, Nat.reduceEqDiff, Nat.reduceAdd, Nat.reduceLeDiff], by simp only [go_sem, Nat.reduceEqDiff, Nat.reduceAdd, Nat.reduceLeDiff], by simp only [go_sem, Nat.reduceEqDiff, Nat.reduceAdd, Nat.reduceLeDiff], by simp only [go_sem, Nat.reduceEqDiff, Nat.reduceAdd, Nat.reduceLeDiff]⟩
        · exact ((((RowW.new (.inr ⟨o1, g1, rfl, h3, h4⟩) hF _ _).new (hF.new _ _) _ _).put (by decide) _).put (by decide) _)
        · exact ((((Kp.refl hF).new _ _).new _ _).put (x := ⟨3, [.agg [.sc (.string ⟨#[]⟩), .sc (.string ⟨#[]⟩), .sc (.string ⟨#[]⟩)]], true, true⟩) (by simp only [go_sem, Nat.reduceEqDiff, Nat.reduceAdd, Nat.reduceLeDiff]) (.inr (Nat.le_refl _)) _).put (x := ⟨3, [.agg [txt o.n, .sc (.string ⟨#[]⟩), .sc (.string ⟨#[]⟩)]], true, true⟩) (by simp only [go_sem, Nat.reduceEqDiff, Nat.reduceAdd, Nat.reduceLeDiff]) (.inr (Nat.le_refl _)) _
    | false =>
      have htf : theF l o.n = ⟨o.n, [], []⟩ := by
        unfold hasF at hh
        unfold theF
        rw [show getF l o.n = none by simpa using hh]; rfl
      rw [htf]
      (repeat' first
    | refine w_seq ?_ | refine w_rg ?_ | refine wo_nil ?_ | refine g_skU ?_ | refine g_skT ?_ | refine g_skF ?_
    | ((first | apply s_plain | apply s_void | apply s_guard | apply g_goT | apply g_goF); · simp only [go_sem, Nat.reduceEqDiff, Nat.reduceAdd, Nat.reduceLeDiff, List.set_cons_succ]; (first | done | rfl))
    | ((first | apply g_T | apply g_F | apply g_gT | apply g_gF); · intro q1_; (first | intro q2_ | have q2_ := q1_); simp only [go_sem, Nat.reduceEqDiff, Nat.reduceAdd, Nat.reduceLeDiff, List.set_cons_succ, q1_, q2_]; (first | done | rfl))
    | (apply w_condX; · simp only [go_sem, Nat.reduceEqDiff, Nat.reduceAdd, Nat.reduceLeDiff, List.set_cons_succ]; (first | done | rfl)); (first | refine wcd_T ?_ | refine wcd_F ?_)
    | refine w_skip ?_ | refine w_exit ?_ | refine w_ret ?_
    | fail
    )
      refine ⟨rfl, by simp only [go_sem, Nat.reduceEqDiff, Nat.reduceAdd, Nat.reduceLeDiff, List.set_cons_succ], by simp only [go_sem, Nat.reduceEqDiff, Nat.reduceAdd, Nat.reduceLeDiff, List.set_cons_succ, fl]; first | done | rfl, ?_, ?_, by simp only [go_sem, Nat.reduceEqDiff, Nat.reduceAdd, Nat.reduceLeDiff], by simp only [go_sem, Nat.reduceEqDiff, Nat.reduceAdd, Nat.reduceLeDiff], by simp only [go_sem, Nat.reduceEqDiff, Nat.reduceAdd, Nat.reduceLeDiff], by simp only [go_sem, Nat.reduceEqDiff, Nat.reduceAdd, Nat.reduceLeDiff]⟩
      · exact ((hw.new hF _ _).new (hF.new _ _) _ _).put (by decide) _
      · exact (((Kp.refl hF).new _ _).new _ _).put (x := ⟨3, [.agg [.sc (.string ⟨#[]⟩), .sc (.string ⟨#[]⟩), .sc (.string ⟨#[]⟩)]], true, true⟩) (by simp only [go_sem, Nat.reduceEqDiff, Nat.reduceAdd, Nat.reduceLeDiff]) (.inr (Nat.le_refl _)) _
  rintro x fr1 τ ⟨rfl, m7, m10, hw1, kp, f0, f1, f7, f10⟩
  try show Wp _ _ _ _ _
  (repeat' first
    | refine w_seq ?_ | refine w_rg ?_ | refine wo_nil ?_ | refine g_skU ?_ | refine g_skT ?_ | refine g_skF ?_
    | ((first | apply s_plain | apply s_void | apply s_guard | apply g_goT | apply g_goF); · simp only [go_sem, Nat.reduceEqDiff, Nat.reduceAdd, Nat.reduceLeDiff, f7, m7]; (first | done | rfl))
    | ((first | apply g_T | apply g_F | apply g_gT | apply g_gF); · intro q1_; (first | intro q2_ | have q2_ := q1_); simp only [go_sem, Nat.reduceEqDiff, Nat.reduceAdd, Nat.reduceLeDiff, f7, m7, q1_, q2_]; (first | done | rfl))
    | fail
    )
  have hlt10 : σ.c 2000010 < τ.c 2000010 := kp.f _ _ (by rw [m10]; rfl)
  refine Wp.mono (Q := SwP σ (doneF l o) (newF l o)) ?_ ?_
  · refine w_block ?_
    (repeat' first
    | refine w_seq ?_ | refine w_rg ?_ | refine wo_nil ?_ | refine g_skU ?_ | refine g_skT ?_ | refine g_skF ?_
    | ((first | apply s_plain | apply s_void | apply s_guard | apply g_goT | apply g_goF); · simp only [go_sem, Nat.reduceEqDiff, Nat.reduceAdd, Nat.reduceLeDiff]; (first | done | rfl))
    | ((first | apply g_T | apply g_F | apply g_gT | apply g_gF); · intro q1_; (first | intro q2_ | have q2_ := q1_); simp only [go_sem, Nat.reduceEqDiff, Nat.reduceAdd, Nat.reduceLeDiff, q1_, q2_]; (first | done | rfl))
    | fail
    )
    refine w_block ?_
    (repeat' first
    | refine w_seq ?_ | refine w_rg ?_ | refine wo_nil ?_ | refine g_skU ?_ | refine g_skT ?_ | refine g_skF ?_
    | ((first | apply s_plain | apply s_void | apply s_guard | apply g_goT | apply g_goF); · simp only [go_sem, Nat.reduceEqDiff, Nat.reduceAdd, Nat.reduceLeDiff]; (first | done | rfl))
    | ((first | apply g_T | apply g_F | apply g_gT | apply g_gF); · intro q1_; (first | intro q2_ | have q2_ := q1_); simp only [go_sem, Nat.reduceEqDiff, Nat.reduceAdd, Nat.reduceLeDiff, q1_, q2_]; (first | done | rfl))
    | fail
    )
    refine w_block ?_
    (repeat' first
    | refine w_seq ?_ | refine w_rg ?_ | refine wo_nil ?_ | refine g_skU ?_ | refine g_skT ?_ | refine g_skF ?_
    | ((first | apply s_plain | apply s_void | apply s_guard | apply g_goT | apply g_goF); · simp only [go_sem, Nat.reduceEqDiff, Nat.reduceAdd, Nat.reduceLeDiff]; (first | done | rfl))
    | ((first | apply g_T | apply g_F | apply g_gT | apply g_gF); · intro q1_; (first | intro q2_ | have q2_ := q1_); simp only [go_sem, Nat.reduceEqDiff, Nat.reduceAdd, Nat.reduceLeDiff, q1_, q2_]; (first | done | rfl))
    | fail
    )
    refine w_block ?_
    (repeat' first
    | refine w_seq ?_ | refine w_rg ?_ | refine wo_nil ?_ | refine g_skU ?_ | refine g_skT ?_ | refine g_skF ?_
    | ((first | apply s_plain | apply s_void | apply s_guard | apply g_goT | apply g_goF); · simp only [go_sem, Nat.reduceEqDiff, Nat.reduceAdd, Nat.reduceLeDiff]; (first | done | rfl))
    | ((first | apply g_T | apply g_F | apply g_gT | apply g_gF); · intro q1_; (first | intro q2_ | have q2_ := q1_); simp only [go_sem, Nat.reduceEqDiff, Nat.reduceAdd, Nat.reduceLeDiff, q1_, q2_]; (first | done | rfl))
    | fail
    )
    refine w_block ?_
    (repeat' first
    | refine w_seq ?_ | refine w_rg ?_ | refine wo_nil ?_ | refine g_skU ?_ | refine g_skT ?_ | refine g_skF ?_
    | ((first | apply s_plain | apply s_void | apply s_guard | apply g_goT | apply g_goF); · simp only [go_sem, Nat.reduceEqDiff, Nat.reduceAdd, Nat.reduceLeDiff]; (first | done | rfl))
    | ((first | apply g_T | apply g_F | apply g_gT | apply g_gF); · intro q1_; (first | intro q2_ | have q2_ := q1_); simp only [go_sem, Nat.reduceEqDiff, Nat.reduceAdd, Nat.reduceLeDiff, q1_, q2_]; (first | done | rfl))
    | fail
    )
    rw [hk4] at m7 ⊢
    obtain ⟨f0', q1, q2, q3⟩ := pos_at hs hh
    have hlt := (List.getElem?_eq_some_iff.1 q1).1
    have hnf : newF l o = theF l o.n := by unfold newF; rw [if_neg (by omega), if_neg (by omega), if_neg (by omega)]
    have hdf : doneF l o = delF' l o.n := by unfold doneF; rw [if_neg (by omega), if_neg (by omega)]
    rw [hdf, hnf]
    unfold fl at m10
    rw [htn] at m10
    have d1 : ((4 : Int) == 1) = false := rfl
    have d2 : ((4 : Int) == 2) = false := rfl
    have d3 : ((4 : Int) == 3) = false := rfl
    have w1 : IntKind.i64.wrap ((posF l o.n : Int) + 1) = ((posF l o.n + 1 : Nat) : Int) := by rw [IntKind.wrap_i64]; omega
    (repeat' first
    | refine w_seq ?_ | refine w_rg ?_ | refine wo_nil ?_ | refine g_skU ?_ | refine g_skT ?_ | refine g_skF ?_
    | ((first | apply s_plain | apply s_void | apply s_guard | apply g_goT | apply g_goF); · simp only [go_sem, Nat.reduceEqDiff, Nat.reduceAdd, Nat.reduceLeDiff, beq_self_eq_true, d1, d2, d3]; (first | done | rfl))
    | ((first | apply g_T | apply g_F | apply g_gT | apply g_gF); · intro q1_; (first | intro q2_ | have q2_ := q1_); simp only [go_sem, Nat.reduceEqDiff, Nat.reduceAdd, Nat.reduceLeDiff, beq_self_eq_true, d1, d2, d3, q1_, q2_]; (first | done | rfl))
    | (apply w_condX; · simp only [go_sem, Nat.reduceEqDiff, Nat.reduceAdd, Nat.reduceLeDiff, beq_self_eq_true, d1, d2, d3]; (first | done | rfl)); (first | refine wcd_T ?_ | refine wcd_F ?_)
    | refine w_skip ?_ | refine w_exit ?_ | refine w_ret ?_
    | fail
    )
    try simp only [if_true, if_false, Nat.reduceEqDiff, reduceCtorEq]
    try show Wp _ _ _ _ _
    (repeat' first
    | refine w_seq ?_ | refine w_rg ?_ | refine wo_nil ?_ | refine g_skU ?_ | refine g_skT ?_ | refine g_skF ?_
    | ((first | apply s_plain | apply s_void | apply s_guard | apply g_goT | apply g_goF); · simp only [go_sem, Nat.reduceEqDiff, Nat.reduceAdd, Nat.reduceLeDiff, f0, f1, w1]; (first | done | rfl))
    | ((first | apply g_T | apply g_F | apply g_gT | apply g_gF); · intro q1_; (first | intro q2_ | have q2_ := q1_); simp only [go_sem, Nat.reduceEqDiff, Nat.reduceAdd, Nat.reduceLeDiff, f0, f1, w1, q1_, q2_]; (first | done | rfl))
    | fail
    )
    obtain ⟨q, τ3, h1, h2, h3⟩ := e_del (J (278, .prim (delF 3)) (by simp [lja])) hw1 (i := posF l o.n) (by rw [hln]; exact hlt) kp.f
    refine s_plain (v := q) (σ' := τ3) (by simp only [go_sem, Nat.reduceEqDiff, Nat.reduceAdd, Nat.reduceLeDiff, f0, f1, w1]; exact h1) ?_
    have k3 := kp.trans h3
    have hlt7 : σ.c 2000007 < τ.c 2000007 := kp.f _ _ (by rw [m7]; rfl)
    have m3 : τ3.m 2000010 (σ.c 2000010) = some ⟨3, [.agg [txt o.n, txt (theF l o.n).s, txt (theF l o.n).t]], true, true⟩ := by
      rw [h3.m 2000010 (σ.c 2000010) (by decide) hlt10]; exact m10
    have m37 : τ3.m 2000007 (σ.c 2000007) = some ⟨3, [.agg [.sc (.int .i64 4), txt o.n, txt o.d]], true, true⟩ := by
      rw [h3.m 2000007 (σ.c 2000007) (by decide) hlt7]; simp only [go_sem, Nat.reduceEqDiff, Nat.reduceAdd, Nat.reduceLeDiff, m7]
    have hdl : (fls l).take (posF l o.n) ++ (fls l).drop (posF l o.n + 1) = fls (delF' l o.n) := by
      unfold delF'
      simp only [fls, List.map_append, List.map_take, List.map_drop]
    rw [hdl] at h2
    have hnq : (!(o.n == o.n)) = false := by simp
    (repeat' first
    | refine w_seq ?_ | refine w_rg ?_ | refine wo_nil ?_ | refine g_skU ?_ | refine g_skT ?_ | refine g_skF ?_
    | ((first | apply s_plain | apply s_void | apply s_guard | apply g_goT | apply g_goF); · simp only [go_sem, Nat.reduceEqDiff, Nat.reduceAdd, Nat.reduceLeDiff, f7, f10, m3, m37, hnq, d3]; (first | done | rfl))
    | ((first | apply g_T | apply g_F | apply g_gT | apply g_gF); · intro q1_; (first | intro q2_ | have q2_ := q1_); simp only [go_sem, Nat.reduceEqDiff, Nat.reduceAdd, Nat.reduceLeDiff, f7, f10, m3, m37, hnq, d3, q1_, q2_]; (first | done | rfl))
    | (apply w_condX; · simp only [go_sem, Nat.reduceEqDiff, Nat.reduceAdd, Nat.reduceLeDiff, f7, f10, m3, m37, hnq, d3]; (first | done | rfl)); (first | refine wcd_T ?_ | refine wcd_F ?_)
    | refine w_skip ?_ | refine w_exit ?_ | refine w_ret ?_
    | fail
    )
    try simp only [if_true, if_false, Nat.reduceEqDiff, reduceCtorEq]
    exact ⟨rfl, ⟨q, by simp only [go_sem, Nat.reduceEqDiff, Nat.reduceAdd, Nat.reduceLeDiff], h2⟩, k3, by unfold fl; rw [htn]; exact m3, by simp only [go_sem, Nat.reduceEqDiff, Nat.reduceAdd, Nat.reduceLeDiff, f10]⟩
  · rintro x fr2 τ2 ⟨rfl, ⟨q, g0, hq⟩, kq, mq, g10⟩
    try show Wp _ _ _ _ _
    have hlp := hq.lenP
    have hdl := fls_len (doneF l o)
    obtain ⟨ok3, ok4⟩ := hq.ok
    unfold fl at mq
    have hnf1 := newF_le hts.1 hts.2 ho.d
    have hroom : roomF l o = (decide ((doneF l o).length ≤ 16) && decide ((newF l o).s.length + (newF l o).t.length ≤ 16384)) := rfl
    rw [hroom]
    clear hroom hw1 m7 m10 htn hts
    generalize newF l o = nf at mq hnf1 ⊢
    generalize hdd : doneF l o = df at hq hlp hdl ⊢
    have w1 : IntKind.i64.wrap ((nf.s.length : Int) + (nf.t.length : Int)) = ((nf.s.length + nf.t.length : Nat) : Int) := by rw [IntKind.wrap_i64]; omega
    have e1 := le16k (nf.s.length + nf.t.length)
    have e2 := le16 df.length (z := 16) rfl
    generalize decide (nf.s.length + nf.t.length ≤ 16384) = B at e1 ⊢
    generalize decide (df.length ≤ 16) = C at e2 ⊢
    cases C with
    | true =>
      refine w_seq (w_rg ?_)
      refine s_plain (v := q) (σ' := τ2) (by simp only [go_sem, Nat.reduceEqDiff, Nat.reduceAdd, Nat.reduceLeDiff, g0]) ?_
      refine s_plain (v := q) (σ' := τ2) (by simp only [go_sem, Nat.reduceEqDiff, Nat.reduceAdd, Nat.reduceLeDiff, g0]) ?_
      refine s_plain (v := .sc (.int .i64 (df.length : Int))) (σ' := τ2) (by simp only [go_sem, Nat.reduceEqDiff, Nat.reduceAdd, Nat.reduceLeDiff, hlp, hdl]; first | done | rfl) ?_
      refine s_plain (v := .sc (.bool true)) (σ' := τ2) (by simp only [go_sem, Nat.reduceEqDiff, Nat.reduceAdd, Nat.reduceLeDiff, e2]) ?_
      refine s_plain (v := .sc (.bool true)) (σ' := τ2) (by simp only [go_sem, Nat.reduceEqDiff, Nat.reduceAdd, Nat.reduceLeDiff]) ?_
      refine s_guard (g := .sc (.bool true)) (by simp only [go_sem, Nat.reduceEqDiff, Nat.reduceAdd, Nat.reduceLeDiff]) ?_
      refine g_goT (v := .bx 2000010 (σ.c 2000010) 3 0 1) (σ' := τ2) (by simp only [go_sem, Nat.reduceEqDiff, Nat.reduceAdd, Nat.reduceLeDiff, g10]) ?_
      refine s_guard (g := .sc (.bool true)) (by simp only [go_sem, Nat.reduceEqDiff, Nat.reduceAdd, Nat.reduceLeDiff]) ?_
      refine g_goT (v := txt nf.s) (σ' := τ2) (by simp only [go_sem, Nat.reduceEqDiff, Nat.reduceAdd, Nat.reduceLeDiff, mq]) ?_
      refine s_guard (g := .sc (.bool true)) (by simp only [go_sem, Nat.reduceEqDiff, Nat.reduceAdd, Nat.reduceLeDiff]) ?_
      refine g_goT (v := .sc (.int .i64 (nf.s.length : Int))) (σ' := τ2) (by simp only [go_sem, Nat.reduceEqDiff, Nat.reduceAdd, Nat.reduceLeDiff, List.size_toArray]) ?_
      refine s_guard (g := .sc (.bool true)) (by simp only [go_sem, Nat.reduceEqDiff, Nat.reduceAdd, Nat.reduceLeDiff]) ?_
      refine g_goT (v := .bx 2000010 (σ.c 2000010) 3 0 2) (σ' := τ2) (by simp only [go_sem, Nat.reduceEqDiff, Nat.reduceAdd, Nat.reduceLeDiff, g10]) ?_
      refine s_guard (g := .sc (.bool true)) (by simp only [go_sem, Nat.reduceEqDiff, Nat.reduceAdd, Nat.reduceLeDiff]) ?_
      refine g_goT (v := txt nf.t) (σ' := τ2) (by simp only [go_sem, Nat.reduceEqDiff, Nat.reduceAdd, Nat.reduceLeDiff, mq]) ?_
      refine s_guard (g := .sc (.bool true)) (by simp only [go_sem, Nat.reduceEqDiff, Nat.reduceAdd, Nat.reduceLeDiff]) ?_
      refine g_goT (v := .sc (.int .i64 (nf.t.length : Int))) (σ' := τ2) (by simp only [go_sem, Nat.reduceEqDiff, Nat.reduceAdd, Nat.reduceLeDiff, List.size_toArray]) ?_
      refine s_guard (g := .sc (.bool true)) (by simp only [go_sem, Nat.reduceEqDiff, Nat.reduceAdd, Nat.reduceLeDiff]) ?_
      refine g_goT (v := .sc (.int .i64 ((nf.s.length + nf.t.length : Nat) : Int))) (σ' := τ2) (by simp only [go_sem, Nat.reduceEqDiff, Nat.reduceAdd, Nat.reduceLeDiff, w1]) ?_
      refine s_guard (g := .sc (.bool true)) (by simp only [go_sem, Nat.reduceEqDiff, Nat.reduceAdd, Nat.reduceLeDiff]) ?_
      refine g_goT (v := .sc (.bool B)) (σ' := τ2) (by simp only [go_sem, Nat.reduceEqDiff, Nat.reduceAdd, Nat.reduceLeDiff, e1]) ?_
      refine s_plain (v := .sc (.bool B)) (σ' := τ2) (by simp only [go_sem, Nat.reduceEqDiff, Nat.reduceAdd, Nat.reduceLeDiff]) ?_
      refine s_plain (v := q) (σ' := τ2) (by simp only [go_sem, Nat.reduceEqDiff, Nat.reduceAdd, Nat.reduceLeDiff]) ?_
      refine s_plain (v := .sc (.bool B)) (σ' := τ2) (by simp only [go_sem, Nat.reduceEqDiff, Nat.reduceAdd, Nat.reduceLeDiff]) ?_
      refine wo_nil (w_ret ?_)
      exact ⟨.inr rfl, .tu [q, .sc (.bool B)], by simp only [go_sem, Nat.reduceEqDiff, Nat.reduceAdd, Nat.reduceLeDiff, retOf, resOf], ⟨⟨q, rfl, hq⟩, kq⟩⟩
    | false =>
      refine w_seq (w_rg ?_)
      refine s_plain (v := q) (σ' := τ2) (by simp only [go_sem, Nat.reduceEqDiff, Nat.reduceAdd, Nat.reduceLeDiff, g0]) ?_
      refine s_plain (v := q) (σ' := τ2) (by simp only [go_sem, Nat.reduceEqDiff, Nat.reduceAdd, Nat.reduceLeDiff, g0]) ?_
      refine s_plain (v := .sc (.int .i64 (df.length : Int))) (σ' := τ2) (by simp only [go_sem, Nat.reduceEqDiff, Nat.reduceAdd, Nat.reduceLeDiff, hlp, hdl]; first | done | rfl) ?_
      refine s_plain (v := .sc (.bool false)) (σ' := τ2) (by simp only [go_sem, Nat.reduceEqDiff, Nat.reduceAdd, Nat.reduceLeDiff, e2]) ?_
      refine s_plain (v := .sc (.bool false)) (σ' := τ2) (by simp only [go_sem, Nat.reduceEqDiff, Nat.reduceAdd, Nat.reduceLeDiff]) ?_
      iterate 8 (refine s_guard (g := .sc (.bool false)) (by simp only [go_sem, Nat.reduceEqDiff, Nat.reduceAdd, Nat.reduceLeDiff]) ?_; refine g_skT ?_)
      refine s_plain (v := .sc (.bool false)) (σ' := τ2) (by simp only [go_sem, Nat.reduceEqDiff, Nat.reduceAdd, Nat.reduceLeDiff]) ?_
      refine s_plain (v := q) (σ' := τ2) (by simp only [go_sem, Nat.reduceEqDiff, Nat.reduceAdd, Nat.reduceLeDiff]) ?_
      refine s_plain (v := .sc (.bool false)) (σ' := τ2) (by simp only [go_sem, Nat.reduceEqDiff, Nat.reduceAdd, Nat.reduceLeDiff]) ?_
      refine wo_nil (w_ret ?_)
      exact ⟨.inr rfl, .tu [q, .sc (.bool false)], by simp only [go_sem, Nat.reduceEqDiff, Nat.reduceAdd, Nat.reduceLeDiff, retOf, resOf], ⟨⟨q, rfl, hq⟩, kq⟩⟩
theorem a267 (J : Has lja env) (D : Has ljd env) (O : Has ljb env) (G : Has ljf env) (G2 : Has ljg env) {l : List Fl} {o : Op9} (hw : RowW σ 3 p (fls l)) (hs : Srt l) (hl : l.length ≤ 900) (hsm : ∀ f ∈ l, f.Sm) (ho : o.Sm) (hF : Fresh σ)
    (hk : o.k = 1 ∨ (hasF l o.n = true ∧ (o.k = 2 ∨ o.k = 3 ∨ o.k = 4))) :
    ∃ q σ', EV env 267 [p, .sc (.int .i64 (posF l o.n : Int)), .sc (.bool (hasF l o.n)), opV o] σ = some (.tu [q, .sc (.bool (roomF l o))], σ') ∧ RowW σ' 3 q (fls (doneF l o)) ∧ Kp (2000000 ≤ ·) σ σ' := by
  rcases hk with hk1 | ⟨hh, hk2 | hk3 | hk4⟩
  · exact a267_1 J D O G G2 hw hs hl hsm ho hF hk1
  · exact a267_2 J D O G G2 hw hs hl hsm ho hF hh hk2
  · exact a267_3 J D O G G2 hw hs hl hsm ho hF hh hk3
  · exact a267_4 J D O G G2 hw hs hl hsm ho hF hh hk4
end

def d255 : Def := (.code 2 [.cell 4 (.some 1), .tmp 5] (.seq (.rg false [⟨.some 2, .none, .box (.t 0)⟩, ⟨.some 3, .none, .box (.t 1)⟩, ⟨.some 4, .none, .box (.c (.agg #[.slice .none 0 0]))⟩, ⟨.some 5, .none, .mv (.c (.int .i64 0))⟩]) (.seq (.seq (.rg false [⟨.some 10, .none, .ld (.some 1) (.t 2)⟩, ⟨.some 11, .none, .call 257 .pure [.t 10]⟩, ⟨.some 12, .none, .un .not (.t 11)⟩, ⟨.some 13, .none, .mv (.t 12)⟩, ⟨.some 14, .some (13, false), .fa 0 (.t 3)⟩, ⟨.some 15, .some (13, false), .ld .none (.t 14)⟩, ⟨.some 16, .some (13, false), .bin .lss (.t 15) (.c (.int .i64 1))⟩, ⟨.some 17, .none, .pick (.t 13) (.c (.bool true)) (.t 16)⟩, ⟨.some 18, .none, .mv (.t 17)⟩, ⟨.some 19, .some (18, false), .fa 0 (.t 3)⟩, ⟨.some 20, .some (18, false), .ld .none (.t 19)⟩, ⟨.some 21, .some (18, false), .bin .gtr (.t 20) (.c (.int .i64 4))⟩, ⟨.some 22, .none, .pick (.t 18) (.c (.bool true)) (.t 21)⟩, ⟨.some 23, .none, .mv (.t 22)⟩, ⟨.some 24, .some (23, false), .fa 1 (.t 3)⟩, ⟨.some 25, .some (23, false), .ld .none (.t 24)⟩, ⟨.some 26, .some (23, false), .call 265 .pure [.t 25]⟩, ⟨.some 27, .some (23, false), .un .not (.t 26)⟩, ⟨.some 28, .none, .pick (.t 23) (.c (.bool true)) (.t 27)⟩, ⟨.some 29, .none, .mv (.t 28)⟩, ⟨.some 30, .some (29, false), .fa 0 (.t 3)⟩, ⟨.some 31, .some (29, false), .ld .none (.t 30)⟩, ⟨.some 32, .some (29, false), .bin .eql (.t 31) (.c (.int .i64 3))⟩, ⟨.some 33, .some (29, false), .mv (.t 32)⟩, ⟨.some 34, .some (33, true), .fa 2 (.t 3)⟩, ⟨.some 35, .some (33, true), .ld .none (.t 34)⟩, ⟨.some 36, .some (33, true), .call 265 .pure [.t 35]⟩, ⟨.some 37, .some (33, true), .un .not (.t 36)⟩, ⟨.some 38, .some (29, false), .pick (.t 33) (.t 37) (.c (.bool false))⟩, ⟨.some 39, .none, .pick (.t 29) (.c (.bool true)) (.t 38)⟩]) (.cond (.t 39) (.seq (.rg false [⟨.some 40, .none, .build (.agg #[.slice .none 0 0]) []⟩, ⟨.none, .none, .st 1 (.t 4) (.t 40)⟩, ⟨.some 5, .none, .mv (.c (.int .i64 1))⟩]) .ret) .skip)) (.seq (.rg false [⟨.some 42, .none, .fa 0 (.t 2)⟩, ⟨.some 43, .none, .ld .none (.t 42)⟩, ⟨.some 44, .none, .fa 1 (.t 3)⟩, ⟨.some 45, .none, .ld .none (.t 44)⟩, ⟨.some 46, .none, .call 266 .pure [.t 43, .t 45]⟩, ⟨.some 41, .none, .mv (.t 46)⟩, ⟨.some 47, .none, .ext (.t 41) 0⟩, ⟨.some 48, .none, .ext (.t 41) 1⟩, ⟨.some 6, .none, .mv (.t 47)⟩, ⟨.some 7, .none, .mv (.t 48)⟩]) (.seq (.seq (.rg false [⟨.some 49, .none, .mv (.t 7)⟩, ⟨.some 50, .none, .un .not (.t 49)⟩, ⟨.some 51, .none, .mv (.t 50)⟩, ⟨.some 52, .some (51, true), .fa 0 (.t 3)⟩, ⟨.some 53, .some (51, true), .ld .none (.t 52)⟩, ⟨.some 54, .some (51, true), .bin .neq (.t 53) (.c (.int .i64 1))⟩, ⟨.some 55, .none, .pick (.t 51) (.t 54) (.c (.bool false))⟩]) (.cond (.t 55) (.seq (.rg false [⟨.some 56, .none, .build (.agg #[.slice .none 0 0]) []⟩, ⟨.none, .none, .st 1 (.t 4) (.t 56)⟩, ⟨.some 5, .none, .mv (.c (.int .i64 9))⟩]) .ret) .skip)) (.seq (.rg true [⟨.some 58, .none, .fa 0 (.t 2)⟩, ⟨.some 59, .none, .ld .none (.t 58)⟩, ⟨.some 61, .none, .mv (.t 6)⟩, ⟨.some 62, .none, .mv (.t 7)⟩, ⟨.some 63, .none, .ld (.some 3) (.t 3)⟩, ⟨.some 60, .none, .icall 268 [.t 59]⟩, ⟨.some 64, .none, .call 267 .opn [.t 60, .t 61, .t 62, .t 63]⟩, ⟨.some 57, .none, .mv (.t 64)⟩, ⟨.some 65, .none, .ext (.t 57) 0⟩, ⟨.some 66, .none, .ext (.t 57) 1⟩, ⟨.some 8, .none, .mv (.t 65)⟩, ⟨.some 9, .none, .mv (.t 66)⟩]) (.seq (.seq (.rg false [⟨.some 67, .none, .mv (.t 9)⟩, ⟨.some 68, .none, .un .not (.t 67)⟩]) (.cond (.t 68) (.seq (.rg false [⟨.some 69, .none, .build (.agg #[.slice .none 0 0]) []⟩, ⟨.none, .none, .st 1 (.t 4) (.t 69)⟩, ⟨.some 5, .none, .mv (.c (.int .i64 13))⟩]) .ret) .skip)) (.seq (.rg false [⟨.some 70, .none, .mv (.t 8)⟩, ⟨.some 71, .none, .build (.agg #[.slice .none 0 0]) [(0, (1, .t 70))]⟩, ⟨.none, .none, .st 1 (.t 4) (.t 71)⟩, ⟨.some 5, .none, .mv (.c (.int .i64 0))⟩]) .ret))))))))
def d259 : Def := (.code 2 [.tmp 4, .tmp 5] (.seq (.rg false [⟨.some 2, .none, .box (.t 0)⟩, ⟨.some 4, .none, .mv (.c (.string ⟨#[]⟩))⟩, ⟨.some 5, .none, .mv (.c (.int .i64 0))⟩]) (.seq (.seq (.rg false [⟨.some 8, .none, .ld (.some 1) (.t 2)⟩, ⟨.some 9, .none, .call 257 .pure [.t 8]⟩, ⟨.some 10, .none, .un .not (.t 9)⟩]) (.cond (.t 10) (.seq (.rg false [⟨.some 4, .none, .mv (.c (.string ⟨#[]⟩))⟩, ⟨.some 5, .none, .mv (.c (.int .i64 1))⟩]) .ret) .skip)) (.seq (.rg false [⟨.some 12, .none, .fa 0 (.t 2)⟩, ⟨.some 13, .none, .ld .none (.t 12)⟩, ⟨.some 14, .none, .mv (.t 1)⟩, ⟨.some 15, .none, .call 266 .pure [.t 13, .t 14]⟩, ⟨.some 11, .none, .mv (.t 15)⟩, ⟨.some 16, .none, .ext (.t 11) 0⟩, ⟨.some 17, .none, .ext (.t 11) 1⟩, ⟨.some 6, .none, .mv (.t 16)⟩, ⟨.some 7, .none, .mv (.t 17)⟩]) (.seq (.seq (.rg false [⟨.some 18, .none, .mv (.t 7)⟩, ⟨.some 19, .none, .un .not (.t 18)⟩]) (.cond (.t 19) (.seq (.rg false [⟨.some 4, .none, .mv (.c (.string ⟨#[]⟩))⟩, ⟨.some 5, .none, .mv (.c (.int .i64 9))⟩]) .ret) .skip)) (.seq (.rg true [⟨.some 20, .none, .fa 0 (.t 2)⟩, ⟨.some 21, .none, .ld .none (.t 20)⟩, ⟨.some 22, .none, .mv (.t 6)⟩, ⟨.some 23, .none, .ia 3 (.t 21) (.t 22)⟩, ⟨.some 24, .none, .fa 1 (.t 23)⟩, ⟨.some 25, .none, .ld .none (.t 24)⟩, ⟨.some 26, .none, .fa 0 (.t 2)⟩, ⟨.some 27, .none, .ld .none (.t 26)⟩, ⟨.some 28, .none, .mv (.t 6)⟩, ⟨.some 29, .none, .ia 3 (.t 27) (.t 28)⟩, ⟨.some 30, .none, .fa 2 (.t 29)⟩, ⟨.some 31, .none, .ld .none (.t 30)⟩, ⟨.some 32, .none, .bin .add (.t 25) (.t 31)⟩, ⟨.some 4, .none, .mv (.t 32)⟩, ⟨.some 5, .none, .mv (.c (.int .i64 0))⟩]) .ret))))))
def ljh : List (Nat × Def) := [(255, d255), (259, d259)]
def badO (l : List Fl) (o : Op9) : Bool := !rightS l || decide (o.k < 1) || decide (o.k > 4) || !wordD o.n || ((o.k == 3) && !wordD o.d)
def doS (l : List Fl) (o : Op9) : List Fl × Int := if badO l o then ([], 1) else if !hasF l o.n && (o.k != 1) then ([], 9) else if roomF l o then (doneF l o, 0) else ([], 13)
def readS (l : List Fl) (n : List UInt8) : List UInt8 × Int := if !rightS l then ([], 1) else match getF l n with
  | none => ([], 9)
  | some f => (f.s ++ f.t, 0)
section
variable {env : Nat → Option Def} {fr : Fr} {σ σ' σ'' : St} {K : Fr → St → Prop} {Q : X → Fr → St → Prop} {p : PV} {bs : List UInt8}
theorem fls_cl (l : List Fl) : clL (fls l) = true := clL_of fun p hp => by
  simp only [fls, List.mem_map] at hp
  obtain ⟨f, _, rfl⟩ := hp
  rfl
theorem e_clone {s : Nat} (J : Has lja env) {l : List Fl} (hl : l.length ≤ 1000000) (hs : s < 2000000) (hF : Fresh σ) : ∃ q σ', icallE (EV env) s 268 [.sl (fls l)] σ = some (q, σ') ∧ RowW σ' 3 q (fls l) ∧ Kp (2000000 ≤ ·) σ σ' := by
  have hk := J (268, .prim (cloneF 3 48)) (by simp [lja])
  have hall := fls_all l
  have hln := fls_len l
  by_cases h0 : (fls l).isEmpty = true
  · have he : fls l = [] := by simpa using h0
    refine ⟨.em, σ, @icall_em env s 268 [.sl (fls l)] [.sl (fls l)] σ St.nil rfl ?_, .inl ⟨rfl, he⟩, Kp.refl hF⟩
    rw [EV_prim hk]
    simp only [cloneF]
    rw [hall, Bool.true_and, if_pos (by rw [decide_eq_true_eq]; omega), if_pos h0]
  · refine ⟨.ob s (σ.c s) 3 0 (fls l).length, σ.new s ⟨3, fls l, true, true⟩, @icall_ob env s 268 7 0 [.sl (fls l)] [.sl (fls l)] ⟨3, fls l, true, true⟩ σ (St.nil.new 7 ⟨3, fls l, true, true⟩) rfl ?_ (by simp [new_m, nil_c]) rfl rfl (by
      rw [fls_cl]; simp [clL, cl]), .inr ⟨s, σ.c s, rfl, by simp [new_m], hs⟩, (Kp.refl hF).new _ _⟩
    rw [EV_prim hk]
    simp only [cloneF]
    rw [hall, Bool.true_and, if_pos (by rw [decide_eq_true_eq]; omega), if_neg h0]
    rfl
theorem a255 (A : Has law env) (A2 : Has lda env) (B : Has ldb env) (C : Has ldc env) (E : Has ljc env) (F : Has lje env) (J : Has lja env) (D : Has ljd env) (O : Has ljb env) (G : Has ljf env) (G2 : Has ljg env) (H : Has ljh env)
    {l : List Fl} {o : Op9} (hl : l.length ≤ 900) (hsm : ∀ f ∈ l, f.Sm) (ho : o.Sm) : AV env 255 [.agg [.sl (fls l)], opV o] = some (.tu [.agg [.sl (fls (doS l o).1)], .sc (.int .i64 (doS l o).2)]) := by
  have h257 := a257 A A2 B C E F (l := l) (by omega) hsm
  have hn := a265 A A2 B C E (s := o.n) ho.n
  have hd := a265 A A2 B C E (s := o.d) ho.d
  have hfe : ∀ (τ : St) (d : Nat), fz τ (d + 1) .em = some (.sl []) := fun _ _ => rfl
  refine AV_wp (H (255, d255) (by simp [ljh])) rfl ?_
  unfold opV
  cases hb : badO l o with
  | true =>
    have hr : doS l o = ([], 1) := by unfold doS; rw [hb, if_pos rfl]
    rw [hr]
    unfold badO at hb
    (repeat' first
    | refine w_seq ?_ | refine w_rg ?_ | refine wo_nil ?_ | refine g_skU ?_ | refine g_skT ?_ | refine g_skF ?_
    | ((first | apply s_plain | apply s_void | apply s_guard | apply g_goT | apply g_goF); · simp only [go_sem, Nat.reduceEqDiff, Nat.reduceAdd, Nat.reduceLeDiff, h257, hn, hd, hb, List.set_cons_succ]; (first | done | rfl))
    | ((first | apply g_T | apply g_F | apply g_gT | apply g_gF); · intro q1_; (first | intro q2_ | have q2_ := q1_); simp only [go_sem, Nat.reduceEqDiff, Nat.reduceAdd, Nat.reduceLeDiff, h257, hn, hd, hb, List.set_cons_succ, q1_, q2_]; (first | done | rfl))
    | (apply w_condX; · simp only [go_sem, Nat.reduceEqDiff, Nat.reduceAdd, Nat.reduceLeDiff, h257, hn, hd, hb, List.set_cons_succ]; (first | done | rfl)); (first | refine wcd_T ?_ | refine wcd_F ?_)
    | refine w_skip ?_ | refine w_exit ?_ | refine w_ret ?_
    | fail
    )
    exact ⟨by first | exact .inr rfl | exact .inr trivial | exact .inl rfl, by simp only [go_sem, Nat.reduceEqDiff, Nat.reduceAdd, Nat.reduceLeDiff, retOf, resOf, fls, List.map_nil, hfe]; first | done | rfl⟩
  | false =>
    have hb2 := hb
    unfold badO at hb2
    have hR : rightS l = true := by
      cases h : rightS l with
      | true => rfl
      | false => rw [h] at hb2; simp at hb2
    obtain ⟨hs, hf, hl16⟩ := rightS_iff.1 hR
    have h266 := a266 D O hs (by omega) o.n
    (repeat' first
    | refine w_seq ?_ | refine w_rg ?_ | refine wo_nil ?_ | refine g_skU ?_ | refine g_skT ?_ | refine g_skF ?_
    | ((first | apply s_plain | apply s_void | apply s_guard | apply g_goT | apply g_goF); · simp only [go_sem, Nat.reduceEqDiff, Nat.reduceAdd, Nat.reduceLeDiff, h257, hn, hd, hb2, List.set_cons_succ, h266]; (first | done | rfl))
    | ((first | apply g_T | apply g_F | apply g_gT | apply g_gF); · intro q1_; (first | intro q2_ | have q2_ := q1_); simp only [go_sem, Nat.reduceEqDiff, Nat.reduceAdd, Nat.reduceLeDiff, h257, hn, hd, hb2, List.set_cons_succ, h266, q1_, q2_]; (first | done | rfl))
    | (apply w_condX; · simp only [go_sem, Nat.reduceEqDiff, Nat.reduceAdd, Nat.reduceLeDiff, h257, hn, hd, hb2, List.set_cons_succ, h266]; (first | done | rfl)); (first | refine wcd_T ?_ | refine wcd_F ?_)
    | refine w_skip ?_ | refine w_exit ?_ | refine w_ret ?_
    | fail
    )
    cases he : (!hasF l o.n && (o.k != 1)) with
    | true =>
      have hr : doS l o = ([], 9) := by unfold doS; rw [hb, he, if_neg (by decide), if_pos rfl]
      rw [hr]
      (repeat' first
    | refine w_seq ?_ | refine w_rg ?_ | refine wo_nil ?_ | refine g_skU ?_ | refine g_skT ?_ | refine g_skF ?_
    | ((first | apply s_plain | apply s_void | apply s_guard | apply g_goT | apply g_goF); · simp only [go_sem, Nat.reduceEqDiff, Nat.reduceAdd, Nat.reduceLeDiff, he, List.set_cons_succ]; (first | done | rfl))
    | ((first | apply g_T | apply g_F | apply g_gT | apply g_gF); · intro q1_; (first | intro q2_ | have q2_ := q1_); simp only [go_sem, Nat.reduceEqDiff, Nat.reduceAdd, Nat.reduceLeDiff, he, List.set_cons_succ, q1_, q2_]; (first | done | rfl))
    | (apply w_condX; · simp only [go_sem, Nat.reduceEqDiff, Nat.reduceAdd, Nat.reduceLeDiff, he, List.set_cons_succ]; (first | done | rfl)); (first | refine wcd_T ?_ | refine wcd_F ?_)
    | refine w_skip ?_ | refine w_exit ?_ | refine w_ret ?_
    | fail
    )
      exact ⟨by first | exact .inr rfl | exact .inr trivial | exact .inl rfl, by simp only [go_sem, Nat.reduceEqDiff, Nat.reduceAdd, Nat.reduceLeDiff, retOf, resOf, fls, List.map_nil, hfe]; first | done | rfl⟩
    | false =>
      have hk : o.k = 1 ∨ (hasF l o.n = true ∧ (o.k = 2 ∨ o.k = 3 ∨ o.k = 4)) := by
        simp only [Bool.or_eq_false_iff, decide_eq_false_iff_not] at hb2
        by_cases h1 : o.k = 1
        · exact .inl h1
        · refine .inr ⟨?_, by omega⟩
          cases h : hasF l o.n with
          | true => rfl
          | false => rw [h] at he; simp at he; exact absurd he h1
      (repeat' first
    | refine w_seq ?_ | refine w_rg ?_ | refine wo_nil ?_ | refine g_skU ?_ | refine g_skT ?_ | refine g_skF ?_
    | ((first | apply s_plain | apply s_void | apply s_guard | apply g_goT | apply g_goF); · simp only [go_sem, Nat.reduceEqDiff, Nat.reduceAdd, Nat.reduceLeDiff, he, List.set_cons_succ]; (first | done | rfl))
    | ((first | apply g_T | apply g_F | apply g_gT | apply g_gF); · intro q1_; (first | intro q2_ | have q2_ := q1_); simp only [go_sem, Nat.reduceEqDiff, Nat.reduceAdd, Nat.reduceLeDiff, he, List.set_cons_succ, q1_, q2_]; (first | done | rfl))
    | (apply w_condX; · simp only [go_sem, Nat.reduceEqDiff, Nat.reduceAdd, Nat.reduceLeDiff, he, List.set_cons_succ]; (first | done | rfl)); (first | refine wcd_T ?_ | refine wcd_F ?_)
    | refine w_skip ?_ | refine w_exit ?_ | refine w_ret ?_
    | fail
    )
      have k0 := ((Kp.refl (P := (2000000 ≤ ·)) Fresh.nil).new 2000002 ⟨1, [.agg [.sl (fls l)]], true, true⟩).new 2000003 ⟨3, [.agg [.sc (.int .i64 o.k), txt o.n, txt o.d]], true, true⟩
      have k1 := k0.new 2000004 ⟨1, [.agg [.em]], true, true⟩
      obtain ⟨q, σ1, h1, h2, h3⟩ := e_clone (s := 60) J (l := l) (by omega) (by decide) k1.f
      refine s_plain (v := q) (σ' := σ1) (by simp only [go_sem, Nat.reduceEqDiff, Nat.reduceAdd, Nat.reduceLeDiff]; exact h1) ?_
      obtain ⟨q2, σ2, h4, h5, h6⟩ := a267 J D O G G2 h2 hs hl hsm ho h3.f hk
      unfold opV at h4
      refine s_plain (v := .tu [q2, .sc (.bool (roomF l o))]) (σ' := σ2) (by simp only [go_sem, Nat.reduceEqDiff, Nat.reduceAdd, Nat.reduceLeDiff]; exact h4) ?_
      have k4 := k1.trans (h3.trans h6)
      have hm4 : σ2.m 2000004 0 = some ⟨1, [.agg [.em]], true, true⟩ := by
        have hlt : 0 < σ1.c 2000004 := Nat.lt_of_lt_of_le (show 0 < (((St.nil.new 2000002 ⟨1, [.agg [.sl (fls l)]], true, true⟩).new 2000003 ⟨3, [.agg [.sc (.int .i64 o.k), txt o.n, txt o.d]], true, true⟩).new 2000004 ⟨1, [.agg [.em]], true, true⟩).c 2000004 by simp [new_c, nil_c]) (h3.c _)
        rw [h6.m 2000004 0 (by decide) hlt, h3.m 2000004 0 (by decide) (by simp [new_c, nil_c])]
        simp only [go_sem, Nat.reduceEqDiff, Nat.reduceAdd, Nat.reduceLeDiff]
      obtain ⟨ok1, ok2⟩ := h5.ok
      cases hr : roomF l o with
      | true =>
        have hd2 : doS l o = (doneF l o, 0) := by unfold doS; rw [hb, he, if_neg (by decide), if_neg (by decide), hr, if_pos rfl]
        rw [hd2]
        have hfz : ∀ y, fz (σ2.put 2000004 0 y) 10 q2 = some (.sl (fls (doneF l o))) := fun y => (h5.put (by decide) y).fz (fls_fz _ 7 _)
        (repeat' first
    | refine w_seq ?_ | refine w_rg ?_ | refine wo_nil ?_ | refine g_skU ?_ | refine g_skT ?_ | refine g_skF ?_
    | ((first | apply s_plain | apply s_void | apply s_guard | apply g_goT | apply g_goF); · simp only [go_sem, Nat.reduceEqDiff, Nat.reduceAdd, Nat.reduceLeDiff, hm4, ok1, ok2]; (first | done | rfl))
    | ((first | apply g_T | apply g_F | apply g_gT | apply g_gF); · intro q1_; (first | intro q2_ | have q2_ := q1_); simp only [go_sem, Nat.reduceEqDiff, Nat.reduceAdd, Nat.reduceLeDiff, hm4, ok1, ok2, q1_, q2_]; (first | done | rfl))
    | (apply w_condX; · simp only [go_sem, Nat.reduceEqDiff, Nat.reduceAdd, Nat.reduceLeDiff, hm4, ok1, ok2]; (first | done | rfl)); (first | refine wcd_T ?_ | refine wcd_F ?_)
    | refine w_skip ?_ | refine w_exit ?_ | refine w_ret ?_
    | fail
    )
        exact ⟨by first | exact .inr rfl | exact .inr trivial | exact .inl rfl, by simp only [go_sem, Nat.reduceEqDiff, Nat.reduceAdd, Nat.reduceLeDiff, retOf, resOf, hm4, ok1, ok2, hfz]; first | done | rfl⟩
      | false =>
        have hd2 : doS l o = ([], 13) := by unfold doS; rw [hb, he, if_neg (by decide), if_neg (by decide), hr, if_neg (by decide)]
        rw [hd2]
        (repeat' first
    | refine w_seq ?_ | refine w_rg ?_ | refine wo_nil ?_ | refine g_skU ?_ | refine g_skT ?_ | refine g_skF ?_
    | ((first | apply s_plain | apply s_void | apply s_guard | apply g_goT | apply g_goF); · simp only [go_sem, Nat.reduceEqDiff, Nat.reduceAdd, Nat.reduceLeDiff, hm4, ok1, ok2]; (first | done | rfl))
    | ((first | apply g_T | apply g_F | apply g_gT | apply g_gF); · intro q1_; (first | intro q2_ | have q2_ := q1_); simp only [go_sem, Nat.reduceEqDiff, Nat.reduceAdd, Nat.reduceLeDiff, hm4, ok1, ok2, q1_, q2_]; (first | done | rfl))
    | (apply w_condX; · simp only [go_sem, Nat.reduceEqDiff, Nat.reduceAdd, Nat.reduceLeDiff, hm4, ok1, ok2]; (first | done | rfl)); (first | refine wcd_T ?_ | refine wcd_F ?_)
    | refine w_skip ?_ | refine w_exit ?_ | refine w_ret ?_
    | fail
    )
        exact ⟨by first | exact .inr rfl | exact .inr trivial | exact .inl rfl, by simp only [go_sem, Nat.reduceEqDiff, Nat.reduceAdd, Nat.reduceLeDiff, retOf, resOf, hm4, fls, List.map_nil, hfe]; first | done | rfl⟩
theorem a259 (A : Has law env) (A2 : Has lda env) (B : Has ldb env) (C : Has ldc env) (E : Has ljc env) (F : Has lje env) (D : Has ljd env) (O : Has ljb env) (H : Has ljh env)
    {l : List Fl} (hl : l.length ≤ 900) (hsm : ∀ f ∈ l, f.Sm) (n : List UInt8) : AV env 259 [.agg [.sl (fls l)], txt n] = some (.tu [txt (readS l n).1, .sc (.int .i64 (readS l n).2)]) := by
  have h257 := a257 A A2 B C E F (l := l) (by omega) hsm
  have hln := fls_len l
  refine AV_wp (H (259, d259) (by simp [ljh])) rfl ?_
  cases hR : rightS l with
  | false =>
    have hr : readS l n = ([], 1) := by unfold readS; rw [hR]; rfl
    rw [hr]
    rw [hR] at h257
    (repeat' first
    | refine w_seq ?_ | refine w_rg ?_ | refine wo_nil ?_ | refine g_skU ?_ | refine g_skT ?_ | refine g_skF ?_
    | ((first | apply s_plain | apply s_void | apply s_guard | apply g_goT | apply g_goF); · simp only [go_sem, Nat.reduceEqDiff, Nat.reduceAdd, Nat.reduceLeDiff, h257, List.set_cons_succ]; (first | done | rfl))
    | ((first | apply g_T | apply g_F | apply g_gT | apply g_gF); · intro q1_; (first | intro q2_ | have q2_ := q1_); simp only [go_sem, Nat.reduceEqDiff, Nat.reduceAdd, Nat.reduceLeDiff, h257, List.set_cons_succ, q1_, q2_]; (first | done | rfl))
    | (apply w_condX; · simp only [go_sem, Nat.reduceEqDiff, Nat.reduceAdd, Nat.reduceLeDiff, h257, List.set_cons_succ]; (first | done | rfl)); (first | refine wcd_T ?_ | refine wcd_F ?_)
    | refine w_skip ?_ | refine w_exit ?_ | refine w_ret ?_
    | fail
    )
    exact ⟨by first | exact .inr rfl | exact .inr trivial | exact .inl rfl, by simp only [go_sem, Nat.reduceEqDiff, Nat.reduceAdd, Nat.reduceLeDiff, retOf, resOf]; first | done | rfl⟩
  | true =>
    obtain ⟨hs, hf, hl16⟩ := rightS_iff.1 hR
    have h266 := a266 D O hs (by omega) n
    rw [hR] at h257
    cases hh : hasF l n with
    | false =>
      rw [hh] at h266
      have hr : readS l n = ([], 9) := by
        unfold hasF at hh
        unfold readS
        rw [hR, show getF l n = none by simpa using hh]; rfl
      rw [hr]
      (repeat' first
    | refine w_seq ?_ | refine w_rg ?_ | refine wo_nil ?_ | refine g_skU ?_ | refine g_skT ?_ | refine g_skF ?_
    | ((first | apply s_plain | apply s_void | apply s_guard | apply g_goT | apply g_goF); · simp only [go_sem, Nat.reduceEqDiff, Nat.reduceAdd, Nat.reduceLeDiff, h257, h266, List.set_cons_succ]; (first | done | rfl))
    | ((first | apply g_T | apply g_F | apply g_gT | apply g_gF); · intro q1_; (first | intro q2_ | have q2_ := q1_); simp only [go_sem, Nat.reduceEqDiff, Nat.reduceAdd, Nat.reduceLeDiff, h257, h266, List.set_cons_succ, q1_, q2_]; (first | done | rfl))
    | (apply w_condX; · simp only [go_sem, Nat.reduceEqDiff, Nat.reduceAdd, Nat.reduceLeDiff, h257, h266, List.set_cons_succ]; (first | done | rfl)); (first | refine wcd_T ?_ | refine wcd_F ?_)
    | refine w_skip ?_ | refine w_exit ?_ | refine w_ret ?_
    | fail
    )
      exact ⟨by first | exact .inr rfl | exact .inr trivial | exact .inl rfl, by simp only [go_sem, Nat.reduceEqDiff, Nat.reduceAdd, Nat.reduceLeDiff, retOf, resOf]; first | done | rfl⟩
    | true =>
      rw [hh] at h266
      obtain ⟨f, q1, q2, q3⟩ := pos_at hs hh
      have hlt := (List.getElem?_eq_some_iff.1 q1).1
      have hy := fls_at q1
      unfold fl at hy
      have e1 : (0 : Int) ≤ ((posF l n : Nat) : Int) ∧ ((posF l n : Nat) : Int) < (l.length : Int) := by omega
      have hfs := hsm f (List.mem_of_getElem? q1)
      have c1 : f.s.length + f.t.length ≤ 9223372036854775807 := by have := hfs.s; have := hfs.t; omega
      have hr : readS l n = (f.s ++ f.t, 0) := by unfold readS; rw [hR, q3]; rfl
      rw [hr]
      (repeat' first
    | refine w_seq ?_ | refine w_rg ?_ | refine wo_nil ?_ | refine g_skU ?_ | refine g_skT ?_ | refine g_skF ?_
    | ((first | apply s_plain | apply s_void | apply s_guard | apply g_goT | apply g_goF); · simp only [go_sem, Nat.reduceEqDiff, Nat.reduceAdd, Nat.reduceLeDiff, h257, h266, List.set_cons_succ, hln, e1, Int.toNat_natCast, hy, List.size_toArray, c1]; (first | done | rfl))
    | ((first | apply g_T | apply g_F | apply g_gT | apply g_gF); · intro q1_; (first | intro q2_ | have q2_ := q1_); simp only [go_sem, Nat.reduceEqDiff, Nat.reduceAdd, Nat.reduceLeDiff, h257, h266, List.set_cons_succ, hln, e1, Int.toNat_natCast, hy, List.size_toArray, c1, q1_, q2_]; (first | done | rfl))
    | (apply w_condX; · simp only [go_sem, Nat.reduceEqDiff, Nat.reduceAdd, Nat.reduceLeDiff, h257, h266, List.set_cons_succ, hln, e1, Int.toNat_natCast, hy, List.size_toArray, c1]; (first | done | rfl)); (first | refine wcd_T ?_ | refine wcd_F ?_)
    | refine w_skip ?_ | refine w_exit ?_ | refine w_ret ?_
    | fail
    )
      exact ⟨by first | exact .inr rfl | exact .inr trivial | exact .inl rfl, by simp only [go_sem, Nat.reduceEqDiff, Nat.reduceAdd, Nat.reduceLeDiff, retOf, resOf]; first | done | rfl⟩
end

end
section
/-! A store that holds one file, the log -/
def logN : List UInt8 := [108, 111, 103]
def logF (S T : List UInt8) : List Fl := [⟨logN, S, T⟩]
theorem logN_word : wordD logN = true := by decide +kernel
theorem log_right {S T : List UInt8} (h : S.length + T.length ≤ 16384) : rightS (logF S T) = true :=
  rightS_iff.2 ⟨List.pairwise_singleton _ _, fun f hf => by simp only [logF, List.mem_singleton] at hf; subst hf; exact ⟨logN_word, h⟩, by simp [logF]⟩
theorem log_get (S T : List UInt8) : getF (logF S T) logN = some ⟨logN, S, T⟩ := rfl
theorem log_has (S T : List UInt8) : hasF (logF S T) logN = true := rfl
theorem do_w0 {r : List UInt8} (h : r.length ≤ 16384) : doS [] ⟨1, logN, r⟩ = (logF [] r, 0) := by
  have h1 : badO [] ⟨1, logN, r⟩ = false := by
    unfold badO
    rw [show rightS [] = true from rfl, logN_word]; rfl
  have h2 : doneF [] ⟨1, logN, r⟩ = logF [] r := rfl
  have h3 : roomF [] ⟨1, logN, r⟩ = true := by
    unfold roomF
    rw [h2]
    have : (newF [] ⟨1, logN, r⟩) = ⟨logN, [], r⟩ := rfl
    rw [this]
    simp [logF, h]
  unfold doS
  rw [h1, h2, h3]; rfl
theorem do_w1 {S T r : List UInt8} (h : S.length + T.length + r.length ≤ 16384) : doS (logF S T) ⟨1, logN, r⟩ = (logF S (T ++ r), 0) := by
  have h1 : badO (logF S T) ⟨1, logN, r⟩ = false := by
    unfold badO
    rw [log_right (by omega), logN_word]; rfl
  have h2 : doneF (logF S T) ⟨1, logN, r⟩ = logF S (T ++ r) := rfl
  have h3 : roomF (logF S T) ⟨1, logN, r⟩ = true := by
    unfold roomF
    rw [h2]
    have : (newF (logF S T) ⟨1, logN, r⟩) = ⟨logN, S, T ++ r⟩ := rfl
    rw [this]
    simp [logF]
    omega
  unfold doS
  rw [h1, h2, h3, log_has]; rfl
theorem do_s {S T : List UInt8} (h : S.length + T.length ≤ 16384) : doS (logF S T) ⟨2, logN, []⟩ = (logF (S ++ T) [], 0) := by
  have h1 : badO (logF S T) ⟨2, logN, []⟩ = false := by
    unfold badO
    rw [log_right (by omega), logN_word]; rfl
  have h2 : doneF (logF S T) ⟨2, logN, []⟩ = logF (S ++ T) [] := rfl
  have h3 : roomF (logF S T) ⟨2, logN, []⟩ = true := by
    unfold roomF
    rw [h2]
    have : (newF (logF S T) ⟨2, logN, []⟩) = ⟨logN, S ++ T, []⟩ := rfl
    rw [this]
    simp [logF]
    omega
  unfold doS
  rw [h1, h2, h3, log_has]; rfl
theorem read_1 {S T : List UInt8} (h : S.length + T.length ≤ 16384) : readS (logF S T) logN = (S ++ T, 0) := by
  unfold readS
  rw [log_right h, log_get]; rfl
/-! Records of few bytes -/
theorem encN_1 {n : Nat} (h : n < 128) : encN n = [UInt8.ofNat n] := by
  rw [encN, dif_pos h]
theorem recB_l1 {d : List UInt8} (h : d.length ≤ 100) : (recB d).length = d.length + 5 := by
  unfold recB
  rw [encN_1 (by omega)]
  simp only [List.length_append, List.length_singleton, chkB_len]
  omega
theorem headN_1 {n : Nat} (h : n < 128) (t : List UInt8) : headN (UInt8.ofNat n :: t) = (n, 1, 0) := by
  unfold headN
  rw [rdN]
  have := @ofNat_small n (by omega)
  simp only [this]
  rw [if_neg (by decide), if_neg (by omega), if_neg (by omega)]
  rw [Nat.mod_eq_of_lt h]
  simp
theorem scan_nil : scanS [] = [] := rfl
theorem scan_cons {d t : List UInt8} (h : d.length ≤ 100) : scanS (recB d ++ t) = d :: scanS t := by
  have hl := recB_l1 h
  have hr : recB d = UInt8.ofNat d.length :: (d ++ chkB d) := by unfold recB; rw [encN_1 (by omega)]; simp
  have hh : headN (recB d ++ t) = (d.length, 1, 0) := by rw [hr]; exact headN_1 (by omega) _
  unfold scanS
  have hs : (recB d ++ t).length = (d.length + 4 + t.length) + 1 := by rw [List.length_append, hl]; omega
  rw [hs, scanF, if_neg (by rw [hr]; simp), hh]
  simp only
  have e1 : (recB d ++ t).drop 1 = d ++ (chkB d ++ t) := by rw [hr]; simp
  have e2 : (recB d ++ t).drop (1 + d.length) = chkB d ++ t := by rw [← List.drop_drop, e1, List.drop_left]
  have e3 : (recB d ++ t).drop (1 + d.length + 4) = t := by
    rw [← List.drop_drop, e2]
    exact List.drop_left' (chkB_len d)
  rw [if_neg (by rw [hs]; omega), e1, e2, e3, List.take_left, List.take_left' (chkB_len d), if_neg (by simp)]
  rw [scanF_more _ t.length t (by omega) (Nat.le_refl _)]
theorem scan_short {d t : List UInt8} {m : Nat} (h : d.length ≤ 100) (hm : m < d.length + 5) : scanS ((recB d ++ t).take m) = [] := by
  have hl := recB_l1 h
  have hr : recB d = UInt8.ofNat d.length :: (d ++ chkB d) := by unfold recB; rw [encN_1 (by omega)]; simp
  cases m with
  | zero => rfl
  | succ k =>
    have e : (recB d ++ t).take (k + 1) = UInt8.ofNat d.length :: (d ++ chkB d ++ t).take k := by rw [hr]; simp
    rw [e]
    have hq : ((d ++ chkB d ++ t).take k).length ≤ k := by rw [List.length_take]; omega
    unfold scanS
    rw [List.length_cons, scanF, if_neg (by simp), headN_1 (by omega)]
    simp only
    rw [if_pos (.inr (.inr (by rw [List.length_cons]; omega)))]
theorem scan_app : ∀ {l : List (List UInt8)} (t : List UInt8), (∀ d ∈ l, d.length ≤ 100) → scanS (l.flatMap recB ++ t) = l ++ scanS t
  | [], t, _ => rfl
  | d :: r, t, h => by
    rw [List.flatMap_cons, List.append_assoc, scan_cons (h d (by simp)), scan_app t (fun x hx => h x (by simp [hx]))]
    rfl
theorem scan_all {l : List (List UInt8)} (h : ∀ d ∈ l, d.length ≤ 100) : scanS (l.flatMap recB) = l := by
  have := scan_app [] h
  rw [List.append_nil, scan_nil, List.append_nil] at this
  exact this
theorem scan_take : ∀ (l : List (List UInt8)) (m : Nat), (∀ d ∈ l, d.length ≤ 100) → ∃ j, j ≤ l.length ∧ scanS ((l.flatMap recB).take m) = l.take j ∧ ∀ k, k ≤ l.length → ((l.take k).flatMap recB).length ≤ m → k ≤ j
  | [], m, _ => ⟨0, Nat.le_refl _, by simp [scan_nil], fun k hk _ => by simpa using hk⟩
  | d :: r, m, h => by
    have hd := h d (by simp)
    have hl := recB_l1 hd
    by_cases hm : m < d.length + 5
    · refine ⟨0, Nat.zero_le _, by rw [List.flatMap_cons, scan_short hd hm]; rfl, fun k hk hq => ?_⟩
      cases k with
      | zero => exact Nat.le_refl _
      | succ k =>
        rw [List.take_succ_cons, List.flatMap_cons, List.length_append, hl] at hq
        omega
    · obtain ⟨j, h1, h2, h3⟩ := scan_take r (m - (d.length + 5)) fun x hx => h x (by simp [hx])
      refine ⟨j + 1, by simp only [List.length_cons]; omega, ?_, fun k hk hq => ?_⟩
      · rw [List.flatMap_cons, List.take_append, List.take_of_length_le (by omega), scan_cons hd, hl, h2, List.take_succ_cons]
      · cases k with
        | zero => exact Nat.zero_le _
        | succ k =>
          rw [List.take_succ_cons, List.flatMap_cons, List.length_append, hl] at hq
          rw [List.length_cons] at hk
          have := h3 k (by omega) (by omega)
          omega
theorem scan_more {s : List UInt8} (h : ∀ d ∈ scanS s, d.length ≤ 100) (t : List UInt8) : ∃ q, scanS (s ++ t) = scanS s ++ q := by
  obtain ⟨u, hu⟩ := scanF_pre s.length s
  refine ⟨scanS (u ++ t), ?_⟩
  have := scan_app (l := scanS s) (u ++ t) h
  rw [← this, ← List.append_assoc]
  rw [show List.flatMap recB (scanS s) ++ u = s from hu.symm]
/-! The log behind some records -/
def logB (l : List (List UInt8)) (k : Nat) : List Fl := if l = [] then [] else logF ((l.take k).flatMap recB) ((l.drop k).flatMap recB)
theorem recs_len : ∀ (l : List (List UInt8)), (∀ d ∈ l, d.length ≤ 100) → (l.flatMap recB).length ≤ 105 * l.length
  | [], _ => Nat.le_refl _
  | d :: r, h => by
    have := recs_len r fun x hx => h x (by simp [hx])
    have := recB_l1 (h d (by simp))
    have := h d (by simp)
    rw [List.flatMap_cons, List.length_append, List.length_cons]
    omega
theorem take_drop_recs (l : List (List UInt8)) (k : Nat) : (l.take k).flatMap recB ++ (l.drop k).flatMap recB = l.flatMap recB := by
  rw [← List.flatMap_append, List.take_append_drop]
theorem logB_w {l : List (List UInt8)} {k : Nat} {d : List UInt8} (hl : l.length ≤ 12) (h : ∀ x ∈ l, x.length ≤ 100) (hd : d.length ≤ 100) (hk : k ≤ l.length) : doS (logB l k) ⟨1, logN, recB d⟩ = (logB (l ++ [d]) k, 0) := by
  have h1 := recs_len l h
  have h2 := recB_l1 hd
  have hsum := congrArg List.length (take_drop_recs l k)
  rw [List.length_append] at hsum
  unfold logB
  rw [if_neg (show l ++ [d] ≠ [] by simp), List.take_append_of_le_length hk, List.drop_append_of_le_length hk, List.flatMap_append, show [d].flatMap recB = recB d by simp]
  by_cases h0 : l = []
  · subst h0
    rw [if_pos rfl, do_w0 (by omega)]
    simp
  · rw [if_neg h0, do_w1 (by omega)]
theorem logB_s {l : List (List UInt8)} {k : Nat} (hl : l.length ≤ 12) (h : ∀ x ∈ l, x.length ≤ 100) (h0 : l ≠ []) : doS (logB l k) ⟨2, logN, []⟩ = (logB l l.length, 0) := by
  have h1 := recs_len l h
  have hsum := congrArg List.length (take_drop_recs l k)
  rw [List.length_append] at hsum
  unfold logB
  rw [if_neg h0, if_neg h0, do_s (by omega), take_drop_recs, List.take_length, List.drop_length]
  rfl
theorem logB_r {l : List (List UInt8)} {k : Nat} (hl : l.length ≤ 12) (h : ∀ x ∈ l, x.length ≤ 100) : (readS (logB l k) logN).1 = l.flatMap recB := by
  have h1 := recs_len l h
  have hsum := congrArg List.length (take_drop_recs l k)
  rw [List.length_append] at hsum
  unfold logB
  by_cases h0 : l = []
  · subst h0; rfl
  · rw [if_neg h0, read_1 (by omega), take_drop_recs]
/-! A crash -/
def keepN (f : Fl) (ks : List Int) (i : Nat) : Nat := if i < ks.length then min (max (ks.getD i 0) 0).toNat f.t.length else 0
def crF (ks : List Int) (i : Nat) (f : Fl) : Fl := ⟨f.n, f.s ++ f.t.take (keepN f ks i), []⟩
def crashF (l : List Fl) (ks : List Int) : List Fl := l.mapIdx (crF ks)
def crashS (l : List Fl) (ks : List Int) : List Fl × Int := if rightS l then (crashF l ks, 0) else ([], 1)
theorem logB_c {l : List (List UInt8)} {k : Nat} {n : Int} (hl : l.length ≤ 12) (h : ∀ x ∈ l, x.length ≤ 100) (hk : k ≤ l.length) : ∃ y m, crashS (logB l k) [n] = (y, 0) ∧ (y.length ≤ 1 ∧ ∀ f ∈ y, f.Sm) ∧ (readS y logN).1 = (l.flatMap recB).take m ∧ ((l.take k).flatMap recB).length ≤ m := by
  have h1 := recs_len l h
  have hsum := congrArg List.length (take_drop_recs l k)
  rw [List.length_append] at hsum
  unfold logB
  by_cases h0 : l = []
  · subst h0
    exact ⟨[], 0, rfl, ⟨by simp, by simp⟩, rfl, by simp⟩
  · rw [if_neg h0]
    generalize hS : (l.take k).flatMap recB = S at hsum
    generalize hT : (l.drop k).flatMap recB = T at hsum
    have hST : S ++ T = l.flatMap recB := by rw [← hS, ← hT]; exact take_drop_recs l k
    have hkl : keepN ⟨logN, S, T⟩ [n] 0 ≤ T.length := by unfold keepN; split <;> simp <;> omega
    have hc : crashS (logF S T) [n] = (logF (S ++ T.take (keepN ⟨logN, S, T⟩ [n] 0)) [], 0) := by
      unfold crashS
      rw [log_right (by omega)]; rfl
    generalize keepN ⟨logN, S, T⟩ [n] 0 = j at hc hkl
    have htl : (T.take j).length = j := by rw [List.length_take]; omega
    refine ⟨_, S.length + j, hc, ⟨by simp [logF], fun f hf => ?_⟩, ?_, by omega⟩
    · simp only [logF, List.mem_singleton] at hf
      subst hf
      exact ⟨show (3 : Nat) ≤ _ by decide, by simp only [List.length_append]; omega, by simp⟩
    · rw [read_1 (by simp only [List.length_append, List.length_nil]; omega), List.append_nil, ← hST, List.take_append, List.take_of_length_le (l := S) (by omega), Nat.add_sub_cancel_left]
theorem tears {l : List (List UInt8)} {k m : Nat} (b : List UInt8) (h : ∀ x ∈ l, x.length ≤ 100) (hk : k ≤ l.length) (hm : ((l.take k).flatMap recB).length ≤ m) : ∃ j q, k ≤ j ∧ j ≤ l.length ∧ scanS ((l.flatMap recB).take m) = l.take j ∧ scanS ((l.flatMap recB).take m ++ b) = l.take j ++ q := by
  obtain ⟨j, h1, h2, h3⟩ := scan_take l m h
  obtain ⟨q, hq⟩ := scan_more (s := (l.flatMap recB).take m) (fun d hd => by rw [h2] at hd; exact h d (List.mem_of_mem_take hd)) b
  exact ⟨j, q, h3 k hk hm, h1, h2, by rw [hq, h2]⟩

end
section
attribute [local go_sem ↓] e_mv e_pick e_bin e_eqs e_beq e_un e_cvi e_str e_s2b e_b2s e_box e_build e_bsl e_ld e_st e_nck e_mkf e_slcS e_slcL e_fa e_fld e_ia e_iaa e_ix e_ixa e_ext e_lenS e_lenL e_mnmx e_app e_appb e_bbx e_msl e_clr e_call e_callv e_icall e_slcA e_mkm e_mput e_mget e_mlen e_mdel pa_t pa_c pa_f slcSP_str hiOf_some hiOf_none loOf_some loOf_none set_eq set_ne
attribute [local go_sem] pv pv1 simple frOf_0 frOf_1 frOf_2 frOf_3 frOf_4 frOf_5 ne_eq not_false_eq_true if_true Bool.false_eq_true if_false pbin punary Option.map_some Option.bind_some pick_and pick_or opt_true Bool.true_and Bool.and_self Bool.and_true Bool.true_or Bool.false_or Bool.not_true Bool.not_false callE pcall_eq List.map_cons List.map_nil List.append_nil List.nil_append List.cons_append mapM_cons' mapM_nil' dep_eq fz_sc fz_sl fz_em fz_fn fz_fp fz_agg fz_tu fz_bx fz_ob Nat.lt_irrefl Nat.zero_lt_one Nat.lt_add_one flat clL cl Bool.or_true okc_sc okc_em okc_sl okc_ob okc_bx okc_fp okc_fn okc_agg okc_ifc cells_agg cells_sc cells_sl cells_em cells_ob cells_fn cells_bx cells_fp List.length_cons List.length_nil Nat.zero_add and_self true_and and_true new_m new_c put_m put_c nil_m nil_c nil_mm new_mm put_mm newM_m newM_c newM_mm putM_m putM_c putM_mm mkeyV_1 mkeyV_2 mapAt_eq deref List.getElem?_cons_zero List.getElem?_cons_succ List.drop_zero List.drop_succ_cons List.take_succ_cons List.take_zero Nat.le_refl false_and and_false decide_true decide_false lenP_em lenP_nil lenP_sl lenP_ob Int.ofNat_zero splice fillP fillE List.modify_zero_cons List.replicate_succ List.replicate_zero List.set_cons_zero List.drop_zero ba_data ba_size ba_toList ba_extract ba_append List.toList_toArray
def d258 : Def := (.code 2 [.cell 4 (.some 1), .tmp 5] (.seq (.rg false [⟨.some 2, .none, .box (.t 0)⟩, ⟨.some 4, .none, .box (.c (.agg #[.slice .none 0 0]))⟩, ⟨.some 5, .none, .mv (.c (.int .i64 0))⟩]) (.seq (.seq (.rg false [⟨.some 10, .none, .ld (.some 1) (.t 2)⟩, ⟨.some 11, .none, .call 257 .pure [.t 10]⟩, ⟨.some 12, .none, .un .not (.t 11)⟩]) (.cond (.t 12) (.seq (.rg false [⟨.some 13, .none, .build (.agg #[.slice .none 0 0]) []⟩, ⟨.none, .none, .st 1 (.t 4) (.t 13)⟩, ⟨.some 5, .none, .mv (.c (.int .i64 1))⟩]) .ret) .skip)) (.seq (.rg false [⟨.some 14, .none, .fa 0 (.t 2)⟩, ⟨.some 15, .none, .ld .none (.t 14)⟩, ⟨.some 16, .none, .icall 268 [.t 15]⟩, ⟨.some 6, .none, .mv (.t 16)⟩]) (.seq (.seq (.rg false [⟨.some 17, .none, .mv (.t 6)⟩, ⟨.some 18, .none, .lenL (.t 17)⟩, ⟨.some 19, .none, .mv (.c (.int .i64 0))⟩]) (.block 0 (.loop (.seq (.rg false [⟨.some 20, .none, .bin .lss (.t 19) (.t 18)⟩]) (.seq (.cond (.t 20) .skip (.exit 0)) (.seq (.block 1 (.seq (.rg false [⟨.some 21, .none, .mv (.t 19)⟩, ⟨.some 22, .none, .ia 3 (.t 17) (.t 19)⟩, ⟨.some 23, .none, .ld (.some 3) (.t 22)⟩, ⟨.some 8, .none, .box (.c (.agg #[.string ⟨#[]⟩, .string ⟨#[]⟩, .string ⟨#[]⟩]))⟩, ⟨.some 7, .none, .mv (.t 21)⟩, ⟨.none, .none, .st 3 (.t 8) (.t 23)⟩]) (.seq (.rg false [⟨.some 9, .none, .mv (.c (.int .i64 0))⟩]) (.seq (.seq (.rg false [⟨.some 24, .none, .mv (.t 7)⟩, ⟨.some 25, .none, .mv (.t 1)⟩, ⟨.some 26, .none, .lenL (.t 25)⟩, ⟨.some 27, .none, .bin .lss (.t 24) (.t 26)⟩]) (.cond (.t 27) (.rg true [⟨.some 28, .none, .mv (.t 1)⟩, ⟨.some 29, .none, .mv (.t 7)⟩, ⟨.some 30, .none, .ia 1 (.t 28) (.t 29)⟩, ⟨.some 31, .none, .ld .none (.t 30)⟩, ⟨.some 32, .none, .mnmx true [.t 31, .c (.int .i64 0)]⟩, ⟨.some 33, .none, .fa 2 (.t 8)⟩, ⟨.some 34, .none, .ld .none (.t 33)⟩, ⟨.some 35, .none, .lenS (.t 34)⟩, ⟨.some 36, .none, .mnmx false [.t 32, .t 35]⟩, ⟨.some 9, .none, .mv (.t 36)⟩]) .skip)) (.rg true [⟨.some 37, .none, .mv (.t 6)⟩, ⟨.some 38, .none, .mv (.t 7)⟩, ⟨.some 39, .none, .fa 0 (.t 8)⟩, ⟨.some 40, .none, .ld .none (.t 39)⟩, ⟨.some 41, .none, .fa 1 (.t 8)⟩, ⟨.some 42, .none, .ld .none (.t 41)⟩, ⟨.some 43, .none, .fa 2 (.t 8)⟩, ⟨.some 44, .none, .ld .none (.t 43)⟩, ⟨.some 45, .none, .mv (.t 9)⟩, ⟨.some 46, .none, .slcS (.t 44) .none (.some (.t 45))⟩, ⟨.some 47, .none, .bin .add (.t 42) (.t 46)⟩, ⟨.some 48, .none, .build (.agg #[.string ⟨#[]⟩, .string ⟨#[]⟩, .string ⟨#[]⟩]) [(0, (1, .t 40)), (1, (1, .t 47))]⟩, ⟨.some 49, .none, .ia 3 (.t 37) (.t 38)⟩, ⟨.none, .none, .st 3 (.t 49) (.t 48)⟩]))))) (.rg false [⟨.some 50, .none, .bin .add (.t 19) (.c (.int .i64 1))⟩, ⟨.some 19, .none, .mv (.t 50)⟩]))))))) (.seq (.rg false [⟨.some 51, .none, .mv (.t 6)⟩, ⟨.some 52, .none, .build (.agg #[.slice .none 0 0]) [(0, (1, .t 51))]⟩, ⟨.none, .none, .st 1 (.t 4) (.t 52)⟩, ⟨.some 5, .none, .mv (.c (.int .i64 0))⟩]) .ret))))))
def ljl : List (Nat × Def) := [(258, d258)]
def ints (l : List Int) : List PV := l.map fun i => .sc (.int .i64 i)
structure Rd9 (env : Nat → Option Def) : Prop where
  a1 : Has law env
  a2 : Has lda env
  b : Has ldb env
  c : Has ldc env
  e : Has ljc env
  f : Has lje env
  j : Has lja env
  d : Has ljd env
  o : Has ljb env
  h : Has ljh env
def crM (ks : List Int) (l : List Fl) (i : Nat) : List Fl := l.mapIdx fun j f => if j < i then crF ks j f else f
theorem crM_len (ks : List Int) (l : List Fl) (i : Nat) : (crM ks l i).length = l.length := by unfold crM; rw [List.length_mapIdx]
theorem crM_zero (ks : List Int) (l : List Fl) : crM ks l 0 = l := by
  unfold crM
  refine List.ext_getElem? fun j => ?_
  rw [List.getElem?_mapIdx]
  cases l[j]? <;> simp
theorem crM_all (ks : List Int) (l : List Fl) : crM ks l l.length = crashF l ks := by
  unfold crM crashF
  refine List.ext_getElem? fun j => ?_
  rw [List.getElem?_mapIdx, List.getElem?_mapIdx]
  by_cases h : j < l.length
  · rw [List.getElem?_eq_getElem h]; simp [h]
  · rw [List.getElem?_eq_none (by omega)]; rfl
theorem crM_at (ks : List Int) {l : List Fl} {i : Nat} (h : i < l.length) : (crM ks l i)[i]? = some l[i] := by
  unfold crM
  rw [List.getElem?_mapIdx, List.getElem?_eq_getElem h]; simp
theorem crM_succ (ks : List Int) {l : List Fl} {i : Nat} (h : i < l.length) : (fls (crM ks l i)).modify i (fun _ => fl (crF ks i l[i])) = fls (crM ks l (i + 1)) := by
  refine List.ext_getElem? fun j => ?_
  unfold fls crM
  rw [List.getElem?_modify, List.getElem?_map, List.getElem?_map, List.getElem?_mapIdx, List.getElem?_mapIdx]
  by_cases hj : j < l.length
  · rw [List.getElem?_eq_getElem hj]
    by_cases e : i = j
    · subst e; simp
    · simp [e]
      by_cases h2 : j < i
      · rw [if_pos h2, if_pos (by omega)]
      · rw [if_neg h2, if_neg (by omega)]
  · rw [List.getElem?_eq_none (by omega)]; simp
section
variable {env : Nat → Option Def} {fr : Fr} {σ σ' σ'' : St} {K : Fr → St → Prop} {Q : X → Fr → St → Prop} {p : PV} {bs : List UInt8}
theorem mx2 (a : Int) : mnmx true [.sc (.int .i64 a), .sc (.int .i64 0)] = some (.sc (.int .i64 (max a 0))) := by
  simp only [mnmx, List.foldlM_cons, List.foldlM_nil, mn1, if_true]
  by_cases h : 0 > a
  · rw [if_pos h, show max a 0 = 0 by omega]; rfl
  · rw [if_neg h, show max a 0 = a by omega]; rfl
theorem keep_bound {f : Fl} {ks : List Int} {i : Nat} (h : i < ks.length) : bound f.t.length (.sc (.int .i64 (min (max ks[i] 0) (f.t.length : Int)))) = some (keepN f ks i) := by
  unfold keepN
  rw [if_pos h, List.getD_eq_getElem?_getD, List.getElem?_eq_getElem h, Option.getD_some]
  simp only [bound]
  rw [if_pos (by omega)]
  congr 1
  omega
theorem keep_none {f : Fl} {ks : List Int} {i : Nat} (h : ¬ i < ks.length) : bound f.t.length (.sc (.int .i64 0)) = some (keepN f ks i) := by
  unfold keepN
  rw [if_neg h]
  simp [bound]
structure CrP (σ : St) (L : List Fl) (e : Int) (r : PV) (τ : St) : Prop where
  q : ∃ q, r = .tu [.agg [q], .sc (.int .i64 e)] ∧ RowW τ 3 q (fls L)
  k : Kp (fun _ => True) σ τ
theorem e_clone2 {s : Nat} (J : Has lja env) {l : List Fl} {p0 : PV} (hl : l.length ≤ 1000000) (clp : cl p0 = true) (hfz : ∀ (τ : St) (d : Nat), fz τ (d + 4) p0 = some (.sl (fls l))) : (l = [] ∧ icallE (EV env) s 268 [p0] σ = some (.em, σ)) ∨ (l ≠ [] ∧ icallE (EV env) s 268 [p0] σ = some (.ob s (σ.c s) 3 0 l.length, σ.new s ⟨3, fls l, true, true⟩)) := by
  have hk := J (268, .prim (cloneF 3 48)) (by simp [lja])
  have hall := fls_all l
  have hfa : [p0].mapM (fz σ dep) = some [.sl (fls l)] := by simp only [List.mapM_cons, List.mapM_nil]; rw [show fz σ dep p0 = some (.sl (fls l)) from hfz σ 8]; rfl
  have hfc : clL [p0] = true → True := fun _ => trivial
  have hln := fls_len l
  by_cases h0 : (fls l).isEmpty = true
  · have he : fls l = [] := by simpa using h0
    have he2 : l = [] := by unfold fls at he; simpa using he
    refine .inl ⟨he2, @icall_em env s 268 [p0] [.sl (fls l)] σ St.nil hfa ?_⟩
    rw [EV_prim hk]
    simp only [cloneF]
    rw [hall, Bool.true_and, if_pos (by rw [decide_eq_true_eq]; omega), if_pos h0]
  · have he2 : l ≠ [] := by rintro rfl; exact h0 rfl
    rw [← hln]
    refine .inr ⟨he2, @icall_ob env s 268 7 0 [p0] [.sl (fls l)] ⟨3, fls l, true, true⟩ σ (St.nil.new 7 ⟨3, fls l, true, true⟩) hfa ?_ (by simp [new_m, nil_c]) rfl rfl (by
      rw [fls_cl]; simp [clL, clp])⟩
    rw [EV_prim hk]
    simp only [cloneF]
    rw [hall, Bool.true_and, if_pos (by rw [decide_eq_true_eq]; omega), if_neg h0]
    rfl
theorem a258 (H : Rd9 env) (L : Has ljl env) {l : List Fl} {ks : List Int} {o g : Nat} {al wr : Bool} {p0 : PV} (cp : cellsOf p0 = [p0]) (okp : okc p0 = true) (clp : cl p0 = true) (hfz : ∀ (τ : St) (d : Nat), fz τ (d + 4) p0 = some (.sl (fls l))) (hl : l.length ≤ 900) (hsm : ∀ f ∈ l, f.Sm) (hk0 : ks.length ≤ 900) (hks : σ.m o g = some ⟨1, ints ks, al, wr⟩) (hF : Fresh σ) :
    ∃ r σ', EV env 258 [.agg [p0], .ob o g 1 0 ks.length] σ = some (r, σ') ∧ CrP σ (crashS l ks).1 (crashS l ks).2 r σ' := by
  have h257 := a257 H.a1 H.a2 H.b H.c H.e H.f (l := l) (by omega) hsm
  have hln := fls_len l
  refine EV_wp' (σ := σ) (R := fun r τ => CrP σ (crashS l ks).1 (crashS l ks).2 r τ) (L (258, d258) (by simp [ljl])) rfl ?_
  have k0 := ((Kp.refl (P := fun _ => True) hF).new 2000002 ⟨1, [.agg [p0]], true, true⟩).new 2000004 ⟨1, [.agg [.em]], true, true⟩
  cases hR : rightS l with
  | false =>
    have hr : crashS l ks = ([], 1) := by unfold crashS; rw [hR]; rfl
    rw [hr]
    rw [hR] at h257
    (repeat' first
    | refine w_seq ?_ | refine w_rg ?_ | refine wo_nil ?_ | refine g_skU ?_ | refine g_skT ?_ | refine g_skF ?_
    | ((first | apply s_plain | apply s_void | apply s_guard | apply g_goT | apply g_goF); · simp only [go_sem, Nat.reduceEqDiff, Nat.reduceAdd, Nat.reduceLeDiff, h257, cp, okp, clp, hfz, List.set_cons_succ]; (first | done | rfl))
    | ((first | apply g_T | apply g_F | apply g_gT | apply g_gF); · intro q1_; (first | intro q2_ | have q2_ := q1_); simp only [go_sem, Nat.reduceEqDiff, Nat.reduceAdd, Nat.reduceLeDiff, h257, cp, okp, clp, hfz, List.set_cons_succ, q1_, q2_]; (first | done | rfl))
    | (apply w_condX; · simp only [go_sem, Nat.reduceEqDiff, Nat.reduceAdd, Nat.reduceLeDiff, h257, cp, okp, clp, hfz, List.set_cons_succ]; (first | done | rfl)); (first | refine wcd_T ?_ | refine wcd_F ?_)
    | refine w_skip ?_ | refine w_exit ?_ | refine w_ret ?_
    | fail
    )
    refine ⟨.inr rfl, _, by simp only [go_sem, Nat.reduceEqDiff, Nat.reduceAdd, Nat.reduceLeDiff, retOf, resOf, List.set_cons_succ], ⟨.em, rfl, .inl ⟨rfl, rfl⟩⟩, ?_⟩
    exact k0.put (x := ⟨1, [.agg [.em]], true, true⟩) (by simp only [go_sem, Nat.reduceEqDiff, Nat.reduceAdd, Nat.reduceLeDiff]) (.inr (by simp [new_c])) _
  | true =>
    have hr : crashS l ks = (crashF l ks, 0) := by unfold crashS; rw [hR]; rfl
    rw [hr]
    rw [hR] at h257
    (repeat' first
    | refine w_seq ?_ | refine w_rg ?_ | refine wo_nil ?_ | refine g_skU ?_ | refine g_skT ?_ | refine g_skF ?_
    | ((first | apply s_plain | apply s_void | apply s_guard | apply g_goT | apply g_goF); · simp only [go_sem, Nat.reduceEqDiff, Nat.reduceAdd, Nat.reduceLeDiff, h257, cp, okp, clp, hfz, List.set_cons_succ]; (first | done | rfl))
    | ((first | apply g_T | apply g_F | apply g_gT | apply g_gF); · intro q1_; (first | intro q2_ | have q2_ := q1_); simp only [go_sem, Nat.reduceEqDiff, Nat.reduceAdd, Nat.reduceLeDiff, h257, cp, okp, clp, hfz, List.set_cons_succ, q1_, q2_]; (first | done | rfl))
    | (apply w_condX; · simp only [go_sem, Nat.reduceEqDiff, Nat.reduceAdd, Nat.reduceLeDiff, h257, cp, okp, clp, hfz, List.set_cons_succ]; (first | done | rfl)); (first | refine wcd_T ?_ | refine wcd_F ?_)
    | refine w_skip ?_ | refine w_exit ?_ | refine w_ret ?_
    | fail
    )
    rcases e_clone2 (s := 16) (σ := (σ.new 2000002 ⟨1, [.agg [p0]], true, true⟩).new 2000004 ⟨1, [.agg [.em]], true, true⟩) H.j (l := l) (p0 := p0) (by omega) clp hfz with ⟨h0, hc⟩ | ⟨h0, hc⟩
    · subst h0
      refine s_plain (v := .em) (σ' := (σ.new 2000002 ⟨1, [.agg [p0]], true, true⟩).new 2000004 ⟨1, [.agg [.em]], true, true⟩) (by simp only [go_sem, Nat.reduceEqDiff, Nat.reduceAdd, Nat.reduceLeDiff]; exact hc) ?_
      (repeat' first
    | refine w_seq ?_ | refine w_rg ?_ | refine wo_nil ?_ | refine g_skU ?_ | refine g_skT ?_ | refine g_skF ?_
    | ((first | apply s_plain | apply s_void | apply s_guard | apply g_goT | apply g_goF); · simp only [go_sem, Nat.reduceEqDiff, Nat.reduceAdd, Nat.reduceLeDiff]; (first | done | rfl))
    | ((first | apply g_T | apply g_F | apply g_gT | apply g_gF); · intro q1_; (first | intro q2_ | have q2_ := q1_); simp only [go_sem, Nat.reduceEqDiff, Nat.reduceAdd, Nat.reduceLeDiff, q1_, q2_]; (first | done | rfl))
    | (apply w_condX; · simp only [go_sem, Nat.reduceEqDiff, Nat.reduceAdd, Nat.reduceLeDiff]; (first | done | rfl)); (first | refine wcd_T ?_ | refine wcd_F ?_)
    | refine w_skip ?_ | refine w_exit ?_ | refine w_ret ?_
    | fail
    )
      refine w_block (w_rangeF 0 (by omega) (fun i fr τ => τ = (σ.new 2000002 ⟨1, [.agg [p0]], true, true⟩).new 2000004 ⟨1, [.agg [.em]], true, true⟩) ⟨by decide, rfl, rfl⟩ (fun _ _ _ _ h => ⟨h, h, h⟩) rfl (by simp only [go_sem, Nat.reduceEqDiff, Nat.reduceAdd, Nat.reduceLeDiff]; first | done | rfl) (by simp only [go_sem, Nat.reduceEqDiff, Nat.reduceAdd, Nat.reduceLeDiff]; first | done | rfl) ?_ ?_)
      · intro i fr1 σ1 hi
        omega
      · rintro fr1 σ1 rfl hfr
        have e0_4 := hfr 4 rfl; have e0_5 := hfr 5 rfl; have e0_6 := hfr 6 rfl; try (simp only [go_sem, Nat.reduceEqDiff, Nat.reduceAdd, Nat.reduceLeDiff] at e0_4); try (simp only [go_sem, Nat.reduceEqDiff, Nat.reduceAdd, Nat.reduceLeDiff] at e0_5); try (simp only [go_sem, Nat.reduceEqDiff, Nat.reduceAdd, Nat.reduceLeDiff] at e0_6)
        try simp only [if_true]
        (repeat' first
    | refine w_seq ?_ | refine w_rg ?_ | refine wo_nil ?_ | refine g_skU ?_ | refine g_skT ?_ | refine g_skF ?_
    | ((first | apply s_plain | apply s_void | apply s_guard | apply g_goT | apply g_goF); · simp only [go_sem, Nat.reduceEqDiff, Nat.reduceAdd, Nat.reduceLeDiff, e0_4, e0_5, e0_6, List.set_cons_succ]; (first | done | rfl))
    | ((first | apply g_T | apply g_F | apply g_gT | apply g_gF); · intro q1_; (first | intro q2_ | have q2_ := q1_); simp only [go_sem, Nat.reduceEqDiff, Nat.reduceAdd, Nat.reduceLeDiff, e0_4, e0_5, e0_6, List.set_cons_succ, q1_, q2_]; (first | done | rfl))
    | (apply w_condX; · simp only [go_sem, Nat.reduceEqDiff, Nat.reduceAdd, Nat.reduceLeDiff, e0_4, e0_5, e0_6, List.set_cons_succ]; (first | done | rfl)); (first | refine wcd_T ?_ | refine wcd_F ?_)
    | refine w_skip ?_ | refine w_exit ?_ | refine w_ret ?_
    | fail
    )
        refine ⟨.inr rfl, .tu [.agg [.em], .sc (.int .i64 0)], by simp only [go_sem, Nat.reduceEqDiff, Nat.reduceAdd, Nat.reduceLeDiff, e0_4, e0_5, e0_6, retOf, resOf, List.set_cons_succ], ⟨.em, rfl, .inl ⟨rfl, rfl⟩⟩, ?_⟩
        exact k0.put (x := ⟨1, [.agg [.em]], true, true⟩) (by simp only [go_sem, Nat.reduceEqDiff, Nat.reduceAdd, Nat.reduceLeDiff]) (.inr (by simp [new_c])) _
    · have hc16 : ((σ.new 2000002 ⟨1, [.agg [p0]], true, true⟩).new 2000004 ⟨1, [.agg [.em]], true, true⟩).c 16 = σ.c 16 := by simp [new_c]
      rw [hc16] at hc
      refine s_plain (v := .ob 16 (σ.c 16) 3 0 l.length) (σ' := ((σ.new 2000002 ⟨1, [.agg [p0]], true, true⟩).new 2000004 ⟨1, [.agg [.em]], true, true⟩).new 16 ⟨3, fls l, true, true⟩) (by simp only [go_sem, Nat.reduceEqDiff, Nat.reduceAdd, Nat.reduceLeDiff]; exact hc) ?_
      (repeat' first
    | refine w_seq ?_ | refine w_rg ?_ | refine wo_nil ?_ | refine g_skU ?_ | refine g_skT ?_ | refine g_skF ?_
    | ((first | apply s_plain | apply s_void | apply s_guard | apply g_goT | apply g_goF); · simp only [go_sem, Nat.reduceEqDiff, Nat.reduceAdd, Nat.reduceLeDiff]; (first | done | rfl))
    | ((first | apply g_T | apply g_F | apply g_gT | apply g_gF); · intro q1_; (first | intro q2_ | have q2_ := q1_); simp only [go_sem, Nat.reduceEqDiff, Nat.reduceAdd, Nat.reduceLeDiff, q1_, q2_]; (first | done | rfl))
    | (apply w_condX; · simp only [go_sem, Nat.reduceEqDiff, Nat.reduceAdd, Nat.reduceLeDiff]; (first | done | rfl)); (first | refine wcd_T ?_ | refine wcd_F ?_)
    | refine w_skip ?_ | refine w_exit ?_ | refine w_ret ?_
    | fail
    )
      refine w_block (w_rangeF l.length (by omega) (fun i fr τ => Kp (fun _ => True) σ τ ∧ τ.m 16 (σ.c 16) = some ⟨3, fls (crM ks l i), true, true⟩ ∧ τ.m 2000004 (σ.c 2000004) = some ⟨1, [.agg [.em]], true, true⟩) ⟨by decide, rfl, rfl⟩ (fun _ _ _ _ h => ⟨h, h, h⟩) ⟨k0.new 16 _, by rw [crM_zero]; simp only [go_sem, Nat.reduceEqDiff, Nat.reduceAdd, Nat.reduceLeDiff], by simp only [go_sem, Nat.reduceEqDiff, Nat.reduceAdd, Nat.reduceLeDiff]⟩ (by simp only [go_sem, Nat.reduceEqDiff, Nat.reduceAdd, Nat.reduceLeDiff]; first | done | rfl) (by simp only [go_sem, Nat.reduceEqDiff, Nat.reduceAdd, Nat.reduceLeDiff]; first | done | rfl) ?_ ?_)
      · rintro i fr1 σ1 hi ⟨k1, m16, m4⟩ hti hfr
        have f0_1 := hfr 1 rfl; have f0_6 := hfr 6 rfl; have f0_17 := hfr 17 rfl; have f0_18 := hfr 18 rfl; try (simp only [go_sem, Nat.reduceEqDiff, Nat.reduceAdd, Nat.reduceLeDiff] at f0_1); try (simp only [go_sem, Nat.reduceEqDiff, Nat.reduceAdd, Nat.reduceLeDiff] at f0_6); try (simp only [go_sem, Nat.reduceEqDiff, Nat.reduceAdd, Nat.reduceLeDiff] at f0_17); try (simp only [go_sem, Nat.reduceEqDiff, Nat.reduceAdd, Nat.reduceLeDiff] at f0_18)
        have hx := crM_at ks hi
        have hy := fls_at hx
        have hlen : (fls (crM ks l i)).length = l.length := by rw [fls_len, crM_len]
        have hsuc := crM_succ ks hi
        have e1 : (0 : Int) ≤ (i : Int) ∧ (i : Int) < (l.length : Int) := by omega
        have hfs := hsm l[i] (List.getElem_mem hi)
        have hks1 : σ1.m o g = some ⟨1, ints ks, al, wr⟩ := by rw [k1.m o g trivial (hF o g (by rw [hks]; rfl))]; exact hks
        unfold fl crF at hsuc
        unfold fl at hy
        generalize l[i] = f at hx hy hsuc hfs
        refine w_block ?_
        (repeat' first
    | refine w_seq ?_ | refine w_rg ?_ | refine wo_nil ?_ | refine g_skU ?_ | refine g_skT ?_ | refine g_skF ?_
    | ((first | apply s_plain | apply s_void | apply s_guard | apply g_goT | apply g_goF); · simp only [go_sem, Nat.reduceEqDiff, Nat.reduceAdd, Nat.reduceLeDiff, f0_1, f0_6, f0_17, f0_18, hti, e1, Int.toNat_natCast, hy, m16, hlen, List.set_cons_succ]; (first | done | rfl))
    | ((first | apply g_T | apply g_F | apply g_gT | apply g_gF); · intro q1_; (first | intro q2_ | have q2_ := q1_); simp only [go_sem, Nat.reduceEqDiff, Nat.reduceAdd, Nat.reduceLeDiff, f0_1, f0_6, f0_17, f0_18, hti, e1, Int.toNat_natCast, hy, m16, hlen, List.set_cons_succ, q1_, q2_]; (first | done | rfl))
    | (apply w_condX; · simp only [go_sem, Nat.reduceEqDiff, Nat.reduceAdd, Nat.reduceLeDiff, f0_1, f0_6, f0_17, f0_18, hti, e1, Int.toNat_natCast, hy, m16, hlen, List.set_cons_succ]; (first | done | rfl)); (first | refine wcd_T ?_ | refine wcd_F ?_)
    | refine w_skip ?_ | refine w_exit ?_ | refine w_ret ?_
    | fail
    )
        have k2 := (k1.new 2000008 ⟨3, [.agg [.sc (.string ⟨#[]⟩), .sc (.string ⟨#[]⟩), .sc (.string ⟨#[]⟩)]], true, true⟩).put (x := ⟨3, [.agg [.sc (.string ⟨#[]⟩), .sc (.string ⟨#[]⟩), .sc (.string ⟨#[]⟩)]], true, true⟩) (o := 2000008) (g := σ1.c 2000008) (by simp only [go_sem, Nat.reduceEqDiff, Nat.reduceAdd, Nat.reduceLeDiff]) (.inr (k1.c _)) (some ⟨3, [.agg [txt f.n, txt f.s, txt f.t]], true, true⟩)
        have n16 : ((σ1.new 2000008 ⟨3, [.agg [.sc (.string ⟨#[]⟩), .sc (.string ⟨#[]⟩), .sc (.string ⟨#[]⟩)]], true, true⟩).put 2000008 (σ1.c 2000008) (some ⟨3, [.agg [txt f.n, txt f.s, txt f.t]], true, true⟩)).m 16 (σ.c 16) = some ⟨3, fls (crM ks l i), true, true⟩ := by simp only [go_sem, Nat.reduceEqDiff, Nat.reduceAdd, Nat.reduceLeDiff, m16]
        have n4 : ((σ1.new 2000008 ⟨3, [.agg [.sc (.string ⟨#[]⟩), .sc (.string ⟨#[]⟩), .sc (.string ⟨#[]⟩)]], true, true⟩).put 2000008 (σ1.c 2000008) (some ⟨3, [.agg [txt f.n, txt f.s, txt f.t]], true, true⟩)).m 2000004 (σ.c 2000004) = some ⟨1, [.agg [.em]], true, true⟩ := by simp only [go_sem, Nat.reduceEqDiff, Nat.reduceAdd, Nat.reduceLeDiff, m4]
        have n8 : ((σ1.new 2000008 ⟨3, [.agg [.sc (.string ⟨#[]⟩), .sc (.string ⟨#[]⟩), .sc (.string ⟨#[]⟩)]], true, true⟩).put 2000008 (σ1.c 2000008) (some ⟨3, [.agg [txt f.n, txt f.s, txt f.t]], true, true⟩)).m 2000008 (σ1.c 2000008) = some ⟨3, [.agg [txt f.n, txt f.s, txt f.t]], true, true⟩ := by simp only [go_sem, Nat.reduceEqDiff, Nat.reduceAdd, Nat.reduceLeDiff]
        have nks := k2.m o g trivial (hF o g (by rw [hks]; rfl))
        rw [hks] at nks
        generalize ((σ1.new 2000008 ⟨3, [.agg [.sc (.string ⟨#[]⟩), .sc (.string ⟨#[]⟩), .sc (.string ⟨#[]⟩)]], true, true⟩).put 2000008 (σ1.c 2000008) (some ⟨3, [.agg [txt f.n, txt f.s, txt f.t]], true, true⟩)) = σ2 at k2 n16 n4 n8 nks ⊢
        have c1 : f.s.length + (f.t.take (keepN f ks i)).length ≤ 9223372036854775807 := by
          have h1 := hfs.s
          have h2 := hfs.t
          rw [List.length_take]; omega
        have hlt' : i < (fls (crM ks l i)).length := by omega
        by_cases hki : i < ks.length
        · have hb := keep_bound (f := f) hki
          have e2 : (0 : Int) ≤ (i : Int) ∧ (i : Int) < (ks.length : Int) := by omega
          have hcn : decide ((i : Int) < (ks.length : Int)) = true := by rw [decide_eq_true_eq]; omega
          have hel : (ints ks)[i]? = some (.sc (.int .i64 ks[i])) := by unfold ints; rw [List.getElem?_map, List.getElem?_eq_getElem hki]; rfl
          have hil : (ints ks).length = ks.length := by unfold ints; rw [List.length_map]
          generalize htk : f.t.take (keepN f ks i) = t' at hsuc c1
          (repeat' first
    | refine w_seq ?_ | refine w_rg ?_ | refine wo_nil ?_ | refine g_skU ?_ | refine g_skT ?_ | refine g_skF ?_
    | ((first | apply s_plain | apply s_void | apply s_guard | apply g_goT | apply g_goF); · simp only [go_sem, Nat.reduceEqDiff, Nat.reduceAdd, Nat.reduceLeDiff, f0_1, f0_6, f0_17, f0_18, e2, hcn, hel, hil, Int.toNat_natCast, nks, n8, mx2, mn2, hb, htk, n16, hlen, hlt', hi, e1, c1, List.drop_zero, List.size_toArray, List.set_cons_succ]; (first | done | rfl))
    | ((first | apply g_T | apply g_F | apply g_gT | apply g_gF); · intro q1_; (first | intro q2_ | have q2_ := q1_); simp only [go_sem, Nat.reduceEqDiff, Nat.reduceAdd, Nat.reduceLeDiff, f0_1, f0_6, f0_17, f0_18, e2, hcn, hel, hil, Int.toNat_natCast, nks, n8, mx2, mn2, hb, htk, n16, hlen, hlt', hi, e1, c1, List.drop_zero, List.size_toArray, List.set_cons_succ, q1_, q2_]; (first | done | rfl))
    | (apply w_condX; · simp only [go_sem, Nat.reduceEqDiff, Nat.reduceAdd, Nat.reduceLeDiff, f0_1, f0_6, f0_17, f0_18, e2, hcn, hel, hil, Int.toNat_natCast, nks, n8, mx2, mn2, hb, htk, n16, hlen, hlt', hi, e1, c1, List.drop_zero, List.size_toArray, List.set_cons_succ]; (first | done | rfl)); (first | refine wcd_T ?_ | refine wcd_F ?_)
    | refine w_skip ?_ | refine w_exit ?_ | refine w_ret ?_
    | fail
    )
          try simp only [if_true]
          refine ⟨k2.put n16 (.inr (Nat.le_refl _)) _, ?_, ?_⟩
          · rw [← hsuc]; simp only [go_sem, Nat.reduceEqDiff, Nat.reduceAdd, Nat.reduceLeDiff]
          · simp only [go_sem, Nat.reduceEqDiff, Nat.reduceAdd, Nat.reduceLeDiff, n4]
        · have hb := keep_none (f := f) hki
          have hcn : decide ((i : Int) < (ks.length : Int)) = false := by rw [decide_eq_false_iff_not]; omega
          generalize htk : f.t.take (keepN f ks i) = t' at hsuc c1
          (repeat' first
    | refine w_seq ?_ | refine w_rg ?_ | refine wo_nil ?_ | refine g_skU ?_ | refine g_skT ?_ | refine g_skF ?_
    | ((first | apply s_plain | apply s_void | apply s_guard | apply g_goT | apply g_goF); · simp only [go_sem, Nat.reduceEqDiff, Nat.reduceAdd, Nat.reduceLeDiff, f0_1, f0_6, f0_17, f0_18, hcn, Int.toNat_natCast, nks, n8, mx2, mn2, hb, htk, n16, hlen, hlt', hi, e1, c1, List.drop_zero, List.size_toArray, List.set_cons_succ]; (first | done | rfl))
    | ((first | apply g_T | apply g_F | apply g_gT | apply g_gF); · intro q1_; (first | intro q2_ | have q2_ := q1_); simp only [go_sem, Nat.reduceEqDiff, Nat.reduceAdd, Nat.reduceLeDiff, f0_1, f0_6, f0_17, f0_18, hcn, Int.toNat_natCast, nks, n8, mx2, mn2, hb, htk, n16, hlen, hlt', hi, e1, c1, List.drop_zero, List.size_toArray, List.set_cons_succ, q1_, q2_]; (first | done | rfl))
    | (apply w_condX; · simp only [go_sem, Nat.reduceEqDiff, Nat.reduceAdd, Nat.reduceLeDiff, f0_1, f0_6, f0_17, f0_18, hcn, Int.toNat_natCast, nks, n8, mx2, mn2, hb, htk, n16, hlen, hlt', hi, e1, c1, List.drop_zero, List.size_toArray, List.set_cons_succ]; (first | done | rfl)); (first | refine wcd_T ?_ | refine wcd_F ?_)
    | refine w_skip ?_ | refine w_exit ?_ | refine w_ret ?_
    | fail
    )
          try simp only [if_true]
          refine ⟨k2.put n16 (.inr (Nat.le_refl _)) _, ?_, ?_⟩
          · rw [← hsuc]; simp only [go_sem, Nat.reduceEqDiff, Nat.reduceAdd, Nat.reduceLeDiff]
          · simp only [go_sem, Nat.reduceEqDiff, Nat.reduceAdd, Nat.reduceLeDiff, n4]
      · rintro fr1 σ1 ⟨k1, m16, m4⟩ hfr
        have e0_4 := hfr 4 rfl; have e0_5 := hfr 5 rfl; have e0_6 := hfr 6 rfl; try (simp only [go_sem, Nat.reduceEqDiff, Nat.reduceAdd, Nat.reduceLeDiff] at e0_4); try (simp only [go_sem, Nat.reduceEqDiff, Nat.reduceAdd, Nat.reduceLeDiff] at e0_5); try (simp only [go_sem, Nat.reduceEqDiff, Nat.reduceAdd, Nat.reduceLeDiff] at e0_6)
        try simp only [if_true]
        (repeat' first
    | refine w_seq ?_ | refine w_rg ?_ | refine wo_nil ?_ | refine g_skU ?_ | refine g_skT ?_ | refine g_skF ?_
    | ((first | apply s_plain | apply s_void | apply s_guard | apply g_goT | apply g_goF); · simp only [go_sem, Nat.reduceEqDiff, Nat.reduceAdd, Nat.reduceLeDiff, e0_4, e0_5, e0_6, m4, List.set_cons_succ]; (first | done | rfl))
    | ((first | apply g_T | apply g_F | apply g_gT | apply g_gF); · intro q1_; (first | intro q2_ | have q2_ := q1_); simp only [go_sem, Nat.reduceEqDiff, Nat.reduceAdd, Nat.reduceLeDiff, e0_4, e0_5, e0_6, m4, List.set_cons_succ, q1_, q2_]; (first | done | rfl))
    | (apply w_condX; · simp only [go_sem, Nat.reduceEqDiff, Nat.reduceAdd, Nat.reduceLeDiff, e0_4, e0_5, e0_6, m4, List.set_cons_succ]; (first | done | rfl)); (first | refine wcd_T ?_ | refine wcd_F ?_)
    | refine w_skip ?_ | refine w_exit ?_ | refine w_ret ?_
    | fail
    )
        rw [crM_all] at m16
        refine ⟨.inr rfl, .tu [.agg [.ob 16 (σ.c 16) 3 0 l.length], .sc (.int .i64 0)], by simp only [go_sem, Nat.reduceEqDiff, Nat.reduceAdd, Nat.reduceLeDiff, e0_4, e0_5, e0_6, retOf, resOf, List.set_cons_succ], ⟨_, rfl, .inr ⟨16, σ.c 16, ?_, ?_, by decide⟩⟩, ?_⟩
        · rw [fls_len]; unfold crashF; rw [List.length_mapIdx]
        · simp only [go_sem, Nat.reduceEqDiff, Nat.reduceAdd, Nat.reduceLeDiff, m16]
        · exact k1.put (x := ⟨1, [.agg [.em]], true, true⟩) m4 (.inr (Nat.le_refl _)) _
end

def d250 : Def := (.code 4 [.tmp 8] (.seq (.rg false [⟨.some 8, .none, .mv (.c (.bool false))⟩]) (.seq (.rg false [⟨.some 9, .none, .box (.c (.agg #[.slice .none 0 0]))⟩]) (.seq (.rg false [⟨.some 10, .none, .mv (.c (.slice .none 0 0))⟩]) (.seq (.rg false [⟨.some 11, .none, .mv (.c (.int .i64 0))⟩]) (.seq (.seq (.rg false [⟨.some 29, .none, .mv (.t 0)⟩, ⟨.some 30, .none, .lenL (.t 29)⟩, ⟨.some 31, .none, .mv (.c (.int .i64 0))⟩]) (.block 0 (.loop (.seq (.rg false [⟨.some 32, .none, .bin .lss (.t 31) (.t 30)⟩]) (.seq (.cond (.t 32) .skip (.exit 0)) (.seq (.block 1 (.seq (.rg false [⟨.some 33, .none, .mv (.t 31)⟩, ⟨.some 34, .none, .ia 1 (.t 29) (.t 31)⟩, ⟨.some 35, .none, .ld .none (.t 34)⟩, ⟨.some 12, .none, .mv (.t 33)⟩, ⟨.some 13, .none, .mv (.t 35)⟩]) (.seq (.seq (.rg false [⟨.some 36, .none, .mv (.t 12)⟩, ⟨.some 37, .none, .bin .geq (.t 36) (.c (.int .i64 12))⟩]) (.cond (.t 37) (.exit 0) .skip)) (.seq (.rg false [⟨.some 39, .none, .mv (.t 13)⟩, ⟨.some 40, .none, .mv (.t 13)⟩, ⟨.some 41, .none, .lenS (.t 40)⟩, ⟨.some 42, .none, .mnmx false [.t 41, .c (.int .i64 100)]⟩, ⟨.some 43, .none, .slcS (.t 39) .none (.some (.t 42))⟩, ⟨.some 44, .none, .call 261 .pure [.t 43]⟩, ⟨.some 38, .none, .mv (.t 44)⟩, ⟨.some 45, .none, .ext (.t 38) 0⟩, ⟨.some 46, .none, .ext (.t 38) 1⟩, ⟨.some 14, .none, .mv (.t 45)⟩, ⟨.some 15, .none, .mv (.t 46)⟩]) (.seq (.rg false [⟨.some 48, .none, .ld (.some 1) (.t 9)⟩, ⟨.some 49, .none, .mv (.t 14)⟩, ⟨.some 50, .none, .build (.agg #[.int .i64 0, .string ⟨#[]⟩, .string ⟨#[]⟩]) [(0, (1, .c (.int .i64 1))), (1, (1, .c (.string ⟨#[108, 111, 103]⟩))), (2, (1, .t 49))]⟩, ⟨.some 51, .none, .call 255 .pure [.t 48, .t 50]⟩, ⟨.some 47, .none, .mv (.t 51)⟩, ⟨.some 52, .none, .ext (.t 47) 0⟩, ⟨.some 53, .none, .ext (.t 47) 1⟩, ⟨.some 16, .none, .box (.c (.agg #[.slice .none 0 0]))⟩, ⟨.none, .none, .st 1 (.t 16) (.t 52)⟩, ⟨.some 17, .none, .mv (.t 53)⟩]) (.seq (.seq (.rg false [⟨.some 54, .none, .mv (.t 15)⟩, ⟨.some 55, .none, .bin .neq (.t 54) (.c (.int .i64 0))⟩, ⟨.some 56, .none, .mv (.t 55)⟩, ⟨.some 57, .some (56, false), .mv (.t 17)⟩, ⟨.some 58, .some (56, false), .bin .neq (.t 57) (.c (.int .i64 0))⟩, ⟨.some 59, .none, .pick (.t 56) (.c (.bool true)) (.t 58)⟩]) (.cond (.t 59) (.seq (.rg false [⟨.some 8, .none, .mv (.c (.bool false))⟩]) .ret) .skip)) (.seq (.rg true [⟨.some 60, .none, .ld (.some 1) (.t 16)⟩, ⟨.some 61, .none, .mv (.t 10)⟩, ⟨.some 62, .none, .mv (.t 13)⟩, ⟨.some 63, .none, .mv (.t 13)⟩, ⟨.some 64, .none, .lenS (.t 63)⟩, ⟨.some 65, .none, .mnmx false [.t 64, .c (.int .i64 100)]⟩, ⟨.some 66, .none, .slcS (.t 62) .none (.some (.t 65))⟩, ⟨.some 67, .none, .bsl 1 (.string ⟨#[]⟩) 1 [(0, .t 66)]⟩, ⟨.some 68, .none, .app 1 16 false (.t 61) (.t 67)⟩, ⟨.none, .none, .st 1 (.t 9) (.t 60)⟩, ⟨.some 10, .none, .mv (.t 68)⟩]) (.seq (.rg false [⟨.some 69, .none, .mv (.t 12)⟩, ⟨.some 70, .none, .mv (.t 1)⟩, ⟨.some 71, .none, .lenL (.t 70)⟩, ⟨.some 72, .none, .bin .lss (.t 69) (.t 71)⟩, ⟨.some 73, .none, .mv (.t 72)⟩, ⟨.some 74, .some (73, true), .mv (.t 1)⟩, ⟨.some 75, .some (73, true), .mv (.t 12)⟩, ⟨.some 76, .some (73, true), .ia 1 (.t 74) (.t 75)⟩, ⟨.some 77, .some (73, true), .ld .none (.t 76)⟩, ⟨.some 78, .none, .pick (.t 73) (.t 77) (.c (.bool false))⟩]) (.cond (.t 78) (.seq (.seq (.rg false [⟨.some 80, .none, .ld (.some 1) (.t 9)⟩, ⟨.some 81, .none, .build (.agg #[.int .i64 0, .string ⟨#[]⟩, .string ⟨#[]⟩]) [(0, (1, .c (.int .i64 2))), (1, (1, .c (.string ⟨#[108, 111, 103]⟩)))]⟩, ⟨.some 82, .none, .call 255 .pure [.t 80, .t 81]⟩, ⟨.some 79, .none, .mv (.t 82)⟩, ⟨.some 83, .none, .ext (.t 79) 0⟩, ⟨.some 84, .none, .ext (.t 79) 1⟩, ⟨.none, .none, .st 1 (.t 9) (.t 83)⟩, ⟨.some 17, .none, .mv (.t 84)⟩]) (.seq (.rg false [⟨.some 85, .none, .mv (.t 17)⟩, ⟨.some 86, .none, .bin .neq (.t 85) (.c (.int .i64 0))⟩]) (.cond (.t 86) (.seq (.rg false [⟨.some 8, .none, .mv (.c (.bool false))⟩]) .ret) .skip))) (.rg false [⟨.some 87, .none, .mv (.t 10)⟩, ⟨.some 88, .none, .lenL (.t 87)⟩, ⟨.some 11, .none, .mv (.t 88)⟩])) .skip))))))))) (.rg false [⟨.some 89, .none, .bin .add (.t 31) (.c (.int .i64 1))⟩, ⟨.some 31, .none, .mv (.t 89)⟩]))))))) (.seq (.rg false [⟨.some 91, .none, .ld (.some 1) (.t 9)⟩, ⟨.some 92, .none, .call 259 .pure [.t 91, .c (.string ⟨#[108, 111, 103]⟩)]⟩, ⟨.some 90, .none, .mv (.t 92)⟩, ⟨.some 93, .none, .ext (.t 90) 0⟩, ⟨.some 94, .none, .ext (.t 90) 1⟩, ⟨.some 18, .none, .mv (.t 93)⟩, ⟨.some 19, .none, .mv (.t 94)⟩]) (.seq (.rg false [⟨.some 96, .none, .mv (.t 18)⟩, ⟨.some 97, .none, .call 262 .pure [.t 96]⟩, ⟨.some 95, .none, .mv (.t 97)⟩, ⟨.some 98, .none, .ext (.t 95) 0⟩, ⟨.some 99, .none, .ext (.t 95) 1⟩, ⟨.some 20, .none, .mv (.t 98)⟩, ⟨.some 21, .none, .mv (.t 99)⟩]) (.seq (.seq (.rg false [⟨.some 100, .none, .mv (.t 20)⟩, ⟨.some 101, .none, .mv (.t 10)⟩, ⟨.some 102, .none, .call 36 .pure [.t 100, .t 101]⟩, ⟨.some 103, .none, .un .not (.t 102)⟩, ⟨.some 104, .none, .mv (.t 103)⟩, ⟨.some 105, .some (104, false), .mv (.t 21)⟩, ⟨.some 106, .some (104, false), .mv (.t 18)⟩, ⟨.some 107, .some (104, false), .lenS (.t 106)⟩, ⟨.some 108, .some (104, false), .bin .neq (.t 105) (.t 107)⟩, ⟨.some 109, .none, .pick (.t 104) (.c (.bool true)) (.t 108)⟩]) (.cond (.t 109) (.seq (.rg false [⟨.some 8, .none, .mv (.c (.bool false))⟩]) .ret) .skip)) (.seq (.rg false [⟨.some 111, .none, .ld (.some 1) (.t 9)⟩, ⟨.some 112, .none, .mv (.t 2)⟩, ⟨.some 113, .none, .bsl 1 (.int .i64 0) 1 [(0, .t 112)]⟩, ⟨.some 114, .none, .call 258 .opn [.t 111, .t 113]⟩, ⟨.some 110, .none, .mv (.t 114)⟩, ⟨.some 115, .none, .ext (.t 110) 0⟩, ⟨.some 116, .none, .ext (.t 110) 1⟩, ⟨.none, .none, .st 1 (.t 9) (.t 115)⟩, ⟨.some 22, .none, .mv (.t 116)⟩]) (.seq (.rg false [⟨.some 118, .none, .ld (.some 1) (.t 9)⟩, ⟨.some 119, .none, .call 259 .pure [.t 118, .c (.string ⟨#[108, 111, 103]⟩)]⟩, ⟨.some 117, .none, .mv (.t 119)⟩, ⟨.some 120, .none, .ext (.t 117) 0⟩, ⟨.some 121, .none, .ext (.t 117) 1⟩, ⟨.some 23, .none, .mv (.t 120)⟩, ⟨.some 24, .none, .mv (.t 121)⟩]) (.seq (.rg false [⟨.some 123, .none, .mv (.t 23)⟩, ⟨.some 124, .none, .call 262 .pure [.t 123]⟩, ⟨.some 122, .none, .mv (.t 124)⟩, ⟨.some 125, .none, .ext (.t 122) 0⟩, ⟨.some 126, .none, .ext (.t 122) 1⟩, ⟨.some 25, .none, .mv (.t 125)⟩, ⟨.some 26, .none, .mv (.t 126)⟩]) (.seq (.rg false [⟨.some 128, .none, .mv (.t 23)⟩, ⟨.some 129, .none, .mv (.t 3)⟩, ⟨.some 130, .none, .mv (.t 3)⟩, ⟨.some 131, .none, .lenS (.t 130)⟩, ⟨.some 132, .none, .mnmx false [.t 131, .c (.int .i64 50)]⟩, ⟨.some 133, .none, .slcS (.t 129) .none (.some (.t 132))⟩, ⟨.some 134, .none, .bin .add (.t 128) (.t 133)⟩, ⟨.some 135, .none, .call 262 .pure [.t 134]⟩, ⟨.some 127, .none, .mv (.t 135)⟩, ⟨.some 136, .none, .ext (.t 127) 0⟩, ⟨.some 137, .none, .ext (.t 127) 1⟩, ⟨.some 27, .none, .mv (.t 136)⟩, ⟨.some 28, .none, .mv (.t 137)⟩]) (.seq (.seq (.rg false [⟨.some 138, .none, .mv (.t 22)⟩, ⟨.some 139, .none, .bin .neq (.t 138) (.c (.int .i64 0))⟩, ⟨.some 140, .none, .mv (.t 139)⟩, ⟨.some 141, .some (140, false), .mv (.t 25)⟩, ⟨.some 142, .some (140, false), .lenL (.t 141)⟩, ⟨.some 143, .some (140, false), .mv (.t 11)⟩, ⟨.some 144, .some (140, false), .bin .lss (.t 142) (.t 143)⟩, ⟨.some 145, .none, .pick (.t 140) (.c (.bool true)) (.t 144)⟩, ⟨.some 146, .none, .mv (.t 145)⟩, ⟨.some 147, .some (146, false), .mv (.t 25)⟩, ⟨.some 148, .some (146, false), .lenL (.t 147)⟩, ⟨.some 149, .some (146, false), .mv (.t 10)⟩, ⟨.some 150, .some (146, false), .lenL (.t 149)⟩, ⟨.some 151, .some (146, false), .bin .gtr (.t 148) (.t 150)⟩, ⟨.some 152, .none, .pick (.t 146) (.c (.bool true)) (.t 151)⟩, ⟨.some 153, .none, .mv (.t 152)⟩, ⟨.some 154, .some (153, false), .mv (.t 27)⟩, ⟨.some 155, .some (153, false), .lenL (.t 154)⟩, ⟨.some 156, .some (153, false), .mv (.t 25)⟩, ⟨.some 157, .some (153, false), .lenL (.t 156)⟩, ⟨.some 158, .some (153, false), .bin .lss (.t 155) (.t 157)⟩, ⟨.some 159, .none, .pick (.t 153) (.c (.bool true)) (.t 158)⟩, ⟨.some 160, .none, .mv (.t 159)⟩, ⟨.some 161, .some (160, false), .call 254 .pure []⟩, ⟨.some 162, .some (160, false), .un .not (.t 161)⟩, ⟨.some 163, .none, .pick (.t 160) (.c (.bool true)) (.t 162)⟩]) (.cond (.t 163) (.seq (.rg false [⟨.some 8, .none, .mv (.c (.bool false))⟩]) .ret) .skip)) (.seq (.rg false [⟨.some 164, .none, .mv (.t 25)⟩, ⟨.some 165, .none, .mv (.t 10)⟩, ⟨.some 166, .none, .mv (.t 25)⟩, ⟨.some 167, .none, .lenL (.t 166)⟩, ⟨.some 168, .none, .slcL 1 (.t 165) .none (.some (.t 167))⟩, ⟨.some 169, .none, .call 36 .pure [.t 164, .t 168]⟩, ⟨.some 170, .none, .mv (.t 169)⟩, ⟨.some 171, .some (170, true), .mv (.t 27)⟩, ⟨.some 172, .some (170, true), .mv (.t 25)⟩, ⟨.some 173, .some (170, true), .lenL (.t 172)⟩, ⟨.some 174, .some (170, true), .slcL 1 (.t 171) .none (.some (.t 173))⟩, ⟨.some 175, .some (170, true), .mv (.t 25)⟩, ⟨.some 176, .some (170, true), .call 36 .pure [.t 174, .t 175]⟩, ⟨.some 177, .none, .pick (.t 170) (.t 176) (.c (.bool false))⟩, ⟨.some 8, .none, .mv (.t 177)⟩]) .ret)))))))))))))))
def ljm : List (Nat × Def) := [(250, d250)]
def dropS : Nat → PC → PC
  | 0, p => p
  | n + 1, .seq _ b => dropS n b
  | _, p => p
def bodyOf : Def → PC
  | .code _ _ b => b
  | _ => .skip
def rest250 : PC := dropS 5 (bodyOf d250)
section
variable {env : Nat → Option Def} {fr : Fr} {σ σ' σ'' : St} {K : Fr → St → Prop} {Q : X → Fr → St → Prop} {p : PV} {bs : List UInt8}
theorem take_le9 (l : List UInt8) (n : Nat) : (l.take n).length ≤ n := by rw [List.length_take]; omega
theorem w_cutB {id : Nat} {b : PC} (P : Fr → St → Prop) (h1 : Wp env b (fun x fr σ => match x with | .normal => P fr σ | .exit i => if i = id then P fr σ else Q (.exit i) fr σ | x => Q x fr σ) fr σ) (h2 : ∀ fr σ, P fr σ → Q .normal fr σ) : Wp env (.block id b) Q fr σ :=
  w_block (h1.mono fun x fr σ h => by
    cases x with
    | normal => exact h2 _ _ h
    | exit i =>
      simp only at h ⊢
      split at h
      · rename_i e; rw [if_pos e]; exact h2 _ _ h
      · rename_i e; rw [if_neg e]; exact h
    | ret => exact h)
theorem Rd9.do (H : Rd9 env) (G : Has ljf env) (G2 : Has ljg env) {l : List Fl} {o : Op9} (hl : l.length ≤ 900) (hsm : ∀ f ∈ l, f.Sm) (ho : o.Sm) : AV env 255 [.agg [.sl (fls l)], opV o] = some (.tu [.agg [.sl (fls (doS l o).1)], .sc (.int .i64 (doS l o).2)]) :=
  a255 H.a1 H.a2 H.b H.c H.e H.f H.j H.d H.o G G2 H.h hl hsm ho
theorem Rd9.read (H : Rd9 env) {l : List Fl} (hl : l.length ≤ 900) (hsm : ∀ f ∈ l, f.Sm) (n : List UInt8) : AV env 259 [.agg [.sl (fls l)], txt n] = some (.tu [txt (readS l n).1, .sc (.int .i64 (readS l n).2)]) :=
  a259 H.a1 H.a2 H.b H.c H.e H.f H.d H.o H.h hl hsm n
def bls (l : List Bool) : List PV := l.map fun b => .sc (.bool b)
structure TearP (ls : List (List UInt8)) (i : Nat) (fr : Fr) (σ : St) : Prop where
  q : ∃ a k p0, a = (ls.take i).map (fun x => x.take 100) ∧ a.length ≤ 12 ∧ k ≤ a.length ∧ fr 11 = .sc (.int .i64 (k : Int)) ∧ Gat σ [68] 1 false (fr 10) (txts a) ∧
    σ.m 2000009 0 = some ⟨1, [.agg [p0]], true, true⟩ ∧ cellsOf p0 = [p0] ∧ okc p0 = true ∧ cl p0 = true ∧ ∀ (τ : St) (d : Nat), fz τ (d + 4) p0 = some (.sl (fls (logB a k)))
  f : Fresh σ
  c : 0 < σ.c 2000009
theorem logB_sm {a : List (List UInt8)} {k : Nat} (hl : a.length ≤ 12) (h : ∀ x ∈ a, x.length ≤ 100) : (logB a k).length ≤ 1 ∧ ∀ f ∈ logB a k, f.Sm := by
  have h1 := recs_len a h
  have hsum := congrArg List.length (take_drop_recs a k)
  rw [List.length_append] at hsum
  unfold logB
  split
  · exact ⟨by simp, by simp⟩
  · refine ⟨by simp [logF], fun f hf => ?_⟩
    simp only [logF, List.mem_singleton] at hf
    subst hf
    exact ⟨show (3 : Nat) ≤ _ by decide, show ((a.take k).flatMap recB).length ≤ _ by omega, show ((a.drop k).flatMap recB).length ≤ _ by omega⟩
theorem w_seqC {a b : PC} (P : Fr → St → Prop) (h1 : Wp env a (fun x fr σ => x = .normal ∧ P fr σ) fr σ) (h2 : ∀ fr σ, P fr σ → Wp env b Q fr σ) : Wp env (.seq a b) Q fr σ :=
  w_seq (h1.mono fun x fr σ h => by
    obtain ⟨rfl, h⟩ := h
    exact h2 _ _ h)
structure Kept (fr1 fr : Fr) : Prop where
  f2 : fr 2 = fr1 2
  f3 : fr 3 = fr1 3
  f9 : fr 9 = fr1 9
  f10 : fr 10 = fr1 10
  f11 : fr 11 = fr1 11
theorem tearsEnd (H : Rd9 env) (C : Has ljl env) (R1 : Has lib env) (R2 : Has lic env) (R3 : Has lie env) (S : Has lii env) (hal : AV env 254 [] = some (.sc (.bool true))) {ls : List (List UInt8)} {kp : Int} {bh : List UInt8} {i : Nat} {fr1 : Fr} {σ1 : St}
    (hT : TearP ls i fr1 σ1) (f9 : fr1 9 = .bx 2000009 0 1 0 0) (f2 : fr1 2 = .sc (.int .i64 kp)) (f3 : fr1 3 = txt bh) (hQ : ∀ fr σ, fr 8 = .sc (.bool true) → Q .ret fr σ) : Wp env rest250 Q fr1 σ1 := by
  obtain ⟨⟨a, k, p0, ea, ha, hk, f11, hg, m9, cp, okp, clp, hfz⟩, hF, hc9⟩ := hT
  have hsm : ∀ x ∈ a, x.length ≤ 100 := by
    intro x hx
    rw [ea] at hx
    simp only [List.mem_map] at hx
    obtain ⟨y, _, rfl⟩ := hx
    exact take_le9 y 100
  have hls0 := logB_sm (k := k) ha hsm
  have hrl := recs_len a hsm
  have hr1 : AV env 259 [.agg [.sl (fls (logB a k))], .sc (.string ⟨#[108, 111, 103]⟩)] = some (.tu [txt (a.flatMap recB), .sc (.int .i64 (readS (logB a k) logN).2)]) := by
    have h := H.read (l := logB a k) (by omega) hls0.2 logN
    rw [logB_r ha hsm] at h
    exact h
  generalize (readS (logB a k) logN).2 = u1 at hr1
  have hs1 := a262 R1 R2 R3 (s := a.flatMap recB) (by omega)
  rw [scan_all hsm] at hs1
  obtain ⟨y, m, hcr, ⟨hy1, hy2⟩, hrd, hmk⟩ := logB_c (n := kp) ha hsm hk
  have hr2 : AV env 259 [.agg [.sl (fls y)], .sc (.string ⟨#[108, 111, 103]⟩)] = some (.tu [txt ((a.flatMap recB).take m), .sc (.int .i64 (readS y logN).2)]) := by
    have h := H.read (l := y) (by omega) hy2 logN
    rw [hrd] at h
    exact h
  generalize (readS y logN).2 = u2 at hr2
  obtain ⟨j, q, hj1, hj2, ht1, ht2⟩ := tears (bh.take 50) hsm hk hmk
  have hml : ((a.flatMap recB).take m).length ≤ 105 * a.length := by rw [List.length_take]; omega
  have hs2 := a262 R1 R2 R3 (s := (a.flatMap recB).take m) (by omega)
  have hbl := take_le9 bh 50
  have hs3 := a262 R1 R2 R3 (s := (a.flatMap recB).take m ++ bh.take 50) (by rw [List.length_append]; omega)
  rw [ht1] at hs2
  rw [ht2] at hs3
  have c1 := cut_take bh 50
  have b1 : ∀ (n : Nat) (k : IntKind), bound n (.sc (.int k (min (n : Int) 50))) = some (min n 50) := fun n k => bound_min rfl
  generalize bh.take 50 = b' at c1 hs3 hbl
  have w1 := a36s S (a := a) (b := a) (by omega)
  rw [decide_eq_true rfl] at w1
  have w2 := a36s S (a := a.take j) (b := a.take j) (by rw [List.length_take]; omega)
  rw [decide_eq_true rfl] at w2
  have hrln : ((a.flatMap recB).length : Int) ≤ 9223372036854775807 := by omega
  generalize hW : a.flatMap recB = W at hr1 hs1 hr2 hs2 hs3 hrl hml hrln
  generalize W.take m = V at hr2 hs2 hs3 hml
  have c3 : V.length + b'.length ≤ 9223372036854775807 := by omega
  have hpf : ∀ d, fz σ1 (d + 2) (fr1 10) = some (.sl (txts a)) := fun d => gat_fzd hg (txts_fz σ1 d a)
  have hne : ((W.length : Int) != (W.length : Int)) = false := bne_self_eq_false _
  have hne0 : ((0 : Int) != 0) = false := rfl
  simp only [rest250, dropS, bodyOf, d250]
  refine w_seqC (fun fr σ => σ1 = σ ∧ Kept fr1 fr ∧ fr 18 = txt W) ?_ ?_
  · (repeat' first
    | refine w_seq ?_ | refine w_rg ?_ | refine wo_nil ?_ | refine g_skU ?_ | refine g_skT ?_ | refine g_skF ?_
    | ((first | apply s_plain | apply s_void | apply s_guard | apply g_goT | apply g_goF); · simp only [go_sem, Nat.reduceEqDiff, Nat.reduceAdd, Nat.reduceLeDiff, f9, m9, cp, clp, hfz, hr1, List.set_cons_succ]; (first | done | rfl))
    | ((first | apply g_T | apply g_F | apply g_gT | apply g_gF); · intro q1_; (first | intro q2_ | have q2_ := q1_); simp only [go_sem, Nat.reduceEqDiff, Nat.reduceAdd, Nat.reduceLeDiff, f9, m9, cp, clp, hfz, hr1, List.set_cons_succ, q1_, q2_]; (first | done | rfl))
    | (apply w_condX; · simp only [go_sem, Nat.reduceEqDiff, Nat.reduceAdd, Nat.reduceLeDiff, f9, m9, cp, clp, hfz, hr1, List.set_cons_succ]; (first | done | rfl)); (first | refine wcd_T ?_ | refine wcd_F ?_)
    | refine w_skip ?_ | refine w_exit ?_ | refine w_ret ?_
    | fail
    )
    exact ⟨rfl, rfl, ⟨by simp only [go_sem, Nat.reduceEqDiff, Nat.reduceAdd, Nat.reduceLeDiff], by simp only [go_sem, Nat.reduceEqDiff, Nat.reduceAdd, Nat.reduceLeDiff], by simp only [go_sem, Nat.reduceEqDiff, Nat.reduceAdd, Nat.reduceLeDiff], by simp only [go_sem, Nat.reduceEqDiff, Nat.reduceAdd, Nat.reduceLeDiff], by simp only [go_sem, Nat.reduceEqDiff, Nat.reduceAdd, Nat.reduceLeDiff]⟩, by simp only [go_sem, Nat.reduceEqDiff, Nat.reduceAdd, Nat.reduceLeDiff]⟩
  rintro fr2 _ ⟨rfl, K2, g18⟩
  refine w_seqC (fun fr σ => σ1 = σ ∧ Kept fr1 fr ∧ fr 18 = txt W ∧ fr 20 = .sl (txts a) ∧ fr 21 = .sc (.int .i64 (W.length : Int))) ?_ ?_
  · (repeat' first
    | refine w_seq ?_ | refine w_rg ?_ | refine wo_nil ?_ | refine g_skU ?_ | refine g_skT ?_ | refine g_skF ?_
    | ((first | apply s_plain | apply s_void | apply s_guard | apply g_goT | apply g_goF); · simp only [go_sem, Nat.reduceEqDiff, Nat.reduceAdd, Nat.reduceLeDiff, g18, hs1]; (first | done | rfl))
    | ((first | apply g_T | apply g_F | apply g_gT | apply g_gF); · intro q1_; (first | intro q2_ | have q2_ := q1_); simp only [go_sem, Nat.reduceEqDiff, Nat.reduceAdd, Nat.reduceLeDiff, g18, hs1, q1_, q2_]; (first | done | rfl))
    | (apply w_condX; · simp only [go_sem, Nat.reduceEqDiff, Nat.reduceAdd, Nat.reduceLeDiff, g18, hs1]; (first | done | rfl)); (first | refine wcd_T ?_ | refine wcd_F ?_)
    | refine w_skip ?_ | refine w_exit ?_ | refine w_ret ?_
    | fail
    )
    exact ⟨rfl, rfl, ⟨by simp only [go_sem, Nat.reduceEqDiff, Nat.reduceAdd, Nat.reduceLeDiff]; exact K2.f2, by simp only [go_sem, Nat.reduceEqDiff, Nat.reduceAdd, Nat.reduceLeDiff]; exact K2.f3, by simp only [go_sem, Nat.reduceEqDiff, Nat.reduceAdd, Nat.reduceLeDiff]; exact K2.f9, by simp only [go_sem, Nat.reduceEqDiff, Nat.reduceAdd, Nat.reduceLeDiff]; exact K2.f10, by simp only [go_sem, Nat.reduceEqDiff, Nat.reduceAdd, Nat.reduceLeDiff]; exact K2.f11⟩, by simp only [go_sem, Nat.reduceEqDiff, Nat.reduceAdd, Nat.reduceLeDiff]; exact g18, by simp only [go_sem, Nat.reduceEqDiff, Nat.reduceAdd, Nat.reduceLeDiff], by simp only [go_sem, Nat.reduceEqDiff, Nat.reduceAdd, Nat.reduceLeDiff]⟩
  rintro fr3 _ ⟨rfl, K3, g18, g20, g21⟩
  refine w_seqC (fun fr σ => σ1 = σ ∧ Kept fr1 fr) ?_ ?_
  · have hp3 : fr3 10 = fr1 10 := K3.f10
    (repeat' first
    | refine w_seq ?_ | refine w_rg ?_ | refine wo_nil ?_ | refine g_skU ?_ | refine g_skT ?_ | refine g_skF ?_
    | ((first | apply s_plain | apply s_void | apply s_guard | apply g_goT | apply g_goF); · simp only [go_sem, Nat.reduceEqDiff, Nat.reduceAdd, Nat.reduceLeDiff, g18, g20, g21, hp3, hpf, w1, hne, List.size_toArray]; (first | done | rfl))
    | ((first | apply g_T | apply g_F | apply g_gT | apply g_gF); · intro q1_; (first | intro q2_ | have q2_ := q1_); simp only [go_sem, Nat.reduceEqDiff, Nat.reduceAdd, Nat.reduceLeDiff, g18, g20, g21, hp3, hpf, w1, hne, List.size_toArray, q1_, q2_]; (first | done | rfl))
    | (apply w_condX; · simp only [go_sem, Nat.reduceEqDiff, Nat.reduceAdd, Nat.reduceLeDiff, g18, g20, g21, hp3, hpf, w1, hne, List.size_toArray]; (first | done | rfl)); (first | refine wcd_T ?_ | refine wcd_F ?_)
    | refine w_skip ?_ | refine w_exit ?_ | refine w_ret ?_
    | fail
    )
    exact ⟨rfl, rfl, ⟨by simp only [go_sem, Nat.reduceEqDiff, Nat.reduceAdd, Nat.reduceLeDiff]; exact K3.f2, by simp only [go_sem, Nat.reduceEqDiff, Nat.reduceAdd, Nat.reduceLeDiff]; exact K3.f3, by simp only [go_sem, Nat.reduceEqDiff, Nat.reduceAdd, Nat.reduceLeDiff]; exact K3.f9, by simp only [go_sem, Nat.reduceEqDiff, Nat.reduceAdd, Nat.reduceLeDiff]; exact K3.f10, by simp only [go_sem, Nat.reduceEqDiff, Nat.reduceAdd, Nat.reduceLeDiff]; exact K3.f11⟩⟩
  rintro fr4 _ ⟨rfl, K4⟩
  have hll2 : (a.take j).length = j := by rw [List.length_take]; omega
  obtain ⟨rv, σ2, hE, ⟨⟨q0, hq0, hrow⟩, kk⟩⟩ := a258 H C (σ := σ1.new 113 ⟨1, [.sc (.int .i64 kp)], true, true⟩) (ks := [kp]) (o := 113) (g := σ1.c 113) (al := true) (wr := true) cp okp clp hfz (by omega) hls0.2 (by simp) (by simp only [go_sem, Nat.reduceEqDiff, Nat.reduceAdd, Nat.reduceLeDiff, ints, List.map_cons, List.map_nil]) (hF.new _ _)
  rw [hcr] at hq0 hrow
  subst hq0
  have n9 : σ2.m 2000009 0 = some ⟨1, [.agg [p0]], true, true⟩ := by
    rw [kk.m 2000009 0 trivial (by simp only [go_sem, Nat.reduceEqDiff, Nat.reduceAdd, Nat.reduceLeDiff]; exact hc9)]
    simp only [go_sem, Nat.reduceEqDiff, Nat.reduceAdd, Nat.reduceLeDiff, m9]
  obtain ⟨ok1, ok2⟩ := hrow.ok
  have hzr : ∀ d, fz (σ2.put 2000009 0 (some ⟨1, [.agg [q0]], true, true⟩)) (d + 3) q0 = some (.sl (fls y)) := fun d => (hrow.put (by decide) _).fz (fls_fz _ d _)
  have hg3 : Gat (σ2.put 2000009 0 (some ⟨1, [.agg [q0]], true, true⟩)) [68] 1 false (fr1 10) (txts a) := (kk.gat (o := 68) trivial (hg.new _)).put (by decide) _
  refine w_seqC (fun fr σ => σ = σ2.put 2000009 0 (some ⟨1, [.agg [q0]], true, true⟩) ∧ Kept fr1 fr ∧ fr 22 = .sc (.int .i64 0)) ?_ ?_
  · have k9 := K4.f9.trans f9
    have k2 := K4.f2.trans f2
    (repeat' first
    | refine w_seq ?_ | refine w_rg ?_ | refine wo_nil ?_ | refine g_skU ?_ | refine g_skT ?_ | refine g_skF ?_
    | ((first | apply s_plain | apply s_void | apply s_guard | apply g_goT | apply g_goF); · simp only [go_sem, Nat.reduceEqDiff, Nat.reduceAdd, Nat.reduceLeDiff, k9, k2, m9, cp, List.set_cons_succ]; (first | done | rfl))
    | ((first | apply g_T | apply g_F | apply g_gT | apply g_gF); · intro q1_; (first | intro q2_ | have q2_ := q1_); simp only [go_sem, Nat.reduceEqDiff, Nat.reduceAdd, Nat.reduceLeDiff, k9, k2, m9, cp, List.set_cons_succ, q1_, q2_]; (first | done | rfl))
    | (apply w_condX; · simp only [go_sem, Nat.reduceEqDiff, Nat.reduceAdd, Nat.reduceLeDiff, k9, k2, m9, cp, List.set_cons_succ]; (first | done | rfl)); (first | refine wcd_T ?_ | refine wcd_F ?_)
    | refine w_skip ?_ | refine w_exit ?_ | refine w_ret ?_
    | fail
    )
    refine s_plain (v := .tu [.agg [q0], .sc (.int .i64 0)]) (σ' := σ2) (by simp only [go_sem, Nat.reduceEqDiff, Nat.reduceAdd, Nat.reduceLeDiff]; exact hE) ?_
    (repeat' first
    | refine w_seq ?_ | refine w_rg ?_ | refine wo_nil ?_ | refine g_skU ?_ | refine g_skT ?_ | refine g_skF ?_
    | ((first | apply s_plain | apply s_void | apply s_guard | apply g_goT | apply g_goF); · simp only [go_sem, Nat.reduceEqDiff, Nat.reduceAdd, Nat.reduceLeDiff, k9, n9, ok1, ok2, List.set_cons_succ]; (first | done | rfl))
    | ((first | apply g_T | apply g_F | apply g_gT | apply g_gF); · intro q1_; (first | intro q2_ | have q2_ := q1_); simp only [go_sem, Nat.reduceEqDiff, Nat.reduceAdd, Nat.reduceLeDiff, k9, n9, ok1, ok2, List.set_cons_succ, q1_, q2_]; (first | done | rfl))
    | (apply w_condX; · simp only [go_sem, Nat.reduceEqDiff, Nat.reduceAdd, Nat.reduceLeDiff, k9, n9, ok1, ok2, List.set_cons_succ]; (first | done | rfl)); (first | refine wcd_T ?_ | refine wcd_F ?_)
    | refine w_skip ?_ | refine w_exit ?_ | refine w_ret ?_
    | fail
    )
    exact ⟨rfl, rfl, ⟨by simp only [go_sem, Nat.reduceEqDiff, Nat.reduceAdd, Nat.reduceLeDiff]; exact K4.f2, by simp only [go_sem, Nat.reduceEqDiff, Nat.reduceAdd, Nat.reduceLeDiff]; exact K4.f3, by simp only [go_sem, Nat.reduceEqDiff, Nat.reduceAdd, Nat.reduceLeDiff]; exact K4.f9, by simp only [go_sem, Nat.reduceEqDiff, Nat.reduceAdd, Nat.reduceLeDiff]; exact K4.f10, by simp only [go_sem, Nat.reduceEqDiff, Nat.reduceAdd, Nat.reduceLeDiff]; exact K4.f11⟩, by simp only [go_sem, Nat.reduceEqDiff, Nat.reduceAdd, Nat.reduceLeDiff]⟩
  rintro fr5 _ ⟨rfl, K5, g22⟩
  have o9 : (σ2.put 2000009 0 (some ⟨1, [.agg [q0]], true, true⟩)).m 2000009 0 = some ⟨1, [.agg [q0]], true, true⟩ := by simp only [go_sem, Nat.reduceEqDiff, Nat.reduceAdd, Nat.reduceLeDiff]
  generalize σ2.put 2000009 0 (some ⟨1, [.agg [q0]], true, true⟩) = σ3 at hzr hg3 o9 ⊢
  refine w_seqC (fun fr σ => σ3 = σ ∧ Kept fr1 fr ∧ fr 22 = .sc (.int .i64 0) ∧ fr 23 = txt V) ?_ ?_
  · have k9 := K5.f9.trans f9
    (repeat' first
    | refine w_seq ?_ | refine w_rg ?_ | refine wo_nil ?_ | refine g_skU ?_ | refine g_skT ?_ | refine g_skF ?_
    | ((first | apply s_plain | apply s_void | apply s_guard | apply g_goT | apply g_goF); · simp only [go_sem, Nat.reduceEqDiff, Nat.reduceAdd, Nat.reduceLeDiff, k9, o9, ok1, ok2, hzr, hr2, List.set_cons_succ]; (first | done | rfl))
    | ((first | apply g_T | apply g_F | apply g_gT | apply g_gF); · intro q1_; (first | intro q2_ | have q2_ := q1_); simp only [go_sem, Nat.reduceEqDiff, Nat.reduceAdd, Nat.reduceLeDiff, k9, o9, ok1, ok2, hzr, hr2, List.set_cons_succ, q1_, q2_]; (first | done | rfl))
    | (apply w_condX; · simp only [go_sem, Nat.reduceEqDiff, Nat.reduceAdd, Nat.reduceLeDiff, k9, o9, ok1, ok2, hzr, hr2, List.set_cons_succ]; (first | done | rfl)); (first | refine wcd_T ?_ | refine wcd_F ?_)
    | refine w_skip ?_ | refine w_exit ?_ | refine w_ret ?_
    | fail
    )
    exact ⟨rfl, rfl, ⟨by simp only [go_sem, Nat.reduceEqDiff, Nat.reduceAdd, Nat.reduceLeDiff]; exact K5.f2, by simp only [go_sem, Nat.reduceEqDiff, Nat.reduceAdd, Nat.reduceLeDiff]; exact K5.f3, by simp only [go_sem, Nat.reduceEqDiff, Nat.reduceAdd, Nat.reduceLeDiff]; exact K5.f9, by simp only [go_sem, Nat.reduceEqDiff, Nat.reduceAdd, Nat.reduceLeDiff]; exact K5.f10, by simp only [go_sem, Nat.reduceEqDiff, Nat.reduceAdd, Nat.reduceLeDiff]; exact K5.f11⟩, by simp only [go_sem, Nat.reduceEqDiff, Nat.reduceAdd, Nat.reduceLeDiff]; exact g22, by simp only [go_sem, Nat.reduceEqDiff, Nat.reduceAdd, Nat.reduceLeDiff]⟩
  rintro fr6 _ ⟨rfl, K6, g22, g23⟩
  refine w_seqC (fun fr σ => σ3 = σ ∧ Kept fr1 fr ∧ fr 22 = .sc (.int .i64 0) ∧ fr 23 = txt V ∧ fr 25 = .sl (txts (a.take j))) ?_ ?_
  · (repeat' first
    | refine w_seq ?_ | refine w_rg ?_ | refine wo_nil ?_ | refine g_skU ?_ | refine g_skT ?_ | refine g_skF ?_
    | ((first | apply s_plain | apply s_void | apply s_guard | apply g_goT | apply g_goF); · simp only [go_sem, Nat.reduceEqDiff, Nat.reduceAdd, Nat.reduceLeDiff, g23, hs2]; (first | done | rfl))
    | ((first | apply g_T | apply g_F | apply g_gT | apply g_gF); · intro q1_; (first | intro q2_ | have q2_ := q1_); simp only [go_sem, Nat.reduceEqDiff, Nat.reduceAdd, Nat.reduceLeDiff, g23, hs2, q1_, q2_]; (first | done | rfl))
    | (apply w_condX; · simp only [go_sem, Nat.reduceEqDiff, Nat.reduceAdd, Nat.reduceLeDiff, g23, hs2]; (first | done | rfl)); (first | refine wcd_T ?_ | refine wcd_F ?_)
    | refine w_skip ?_ | refine w_exit ?_ | refine w_ret ?_
    | fail
    )
    exact ⟨rfl, rfl, ⟨by simp only [go_sem, Nat.reduceEqDiff, Nat.reduceAdd, Nat.reduceLeDiff]; exact K6.f2, by simp only [go_sem, Nat.reduceEqDiff, Nat.reduceAdd, Nat.reduceLeDiff]; exact K6.f3, by simp only [go_sem, Nat.reduceEqDiff, Nat.reduceAdd, Nat.reduceLeDiff]; exact K6.f9, by simp only [go_sem, Nat.reduceEqDiff, Nat.reduceAdd, Nat.reduceLeDiff]; exact K6.f10, by simp only [go_sem, Nat.reduceEqDiff, Nat.reduceAdd, Nat.reduceLeDiff]; exact K6.f11⟩, by simp only [go_sem, Nat.reduceEqDiff, Nat.reduceAdd, Nat.reduceLeDiff]; exact g22, by simp only [go_sem, Nat.reduceEqDiff, Nat.reduceAdd, Nat.reduceLeDiff]; exact g23, by simp only [go_sem, Nat.reduceEqDiff, Nat.reduceAdd, Nat.reduceLeDiff]⟩
  rintro fr7 _ ⟨rfl, K7, g22, g23, g25⟩
  refine w_seqC (fun fr σ => σ3 = σ ∧ Kept fr1 fr ∧ fr 22 = .sc (.int .i64 0) ∧ fr 25 = .sl (txts (a.take j)) ∧ fr 27 = .sl (txts (a.take j ++ q))) ?_ ?_
  · have k3 := K7.f3.trans f3
    (repeat' first
    | refine w_seq ?_ | refine w_rg ?_ | refine wo_nil ?_ | refine g_skU ?_ | refine g_skT ?_ | refine g_skF ?_
    | ((first | apply s_plain | apply s_void | apply s_guard | apply g_goT | apply g_goF); · simp only [go_sem, Nat.reduceEqDiff, Nat.reduceAdd, Nat.reduceLeDiff, g23, k3, hs3, mn2, b1, c1, c3, List.drop_zero, List.size_toArray]; (first | done | rfl))
    | ((first | apply g_T | apply g_F | apply g_gT | apply g_gF); · intro q1_; (first | intro q2_ | have q2_ := q1_); simp only [go_sem, Nat.reduceEqDiff, Nat.reduceAdd, Nat.reduceLeDiff, g23, k3, hs3, mn2, b1, c1, c3, List.drop_zero, List.size_toArray, q1_, q2_]; (first | done | rfl))
    | (apply w_condX; · simp only [go_sem, Nat.reduceEqDiff, Nat.reduceAdd, Nat.reduceLeDiff, g23, k3, hs3, mn2, b1, c1, c3, List.drop_zero, List.size_toArray]; (first | done | rfl)); (first | refine wcd_T ?_ | refine wcd_F ?_)
    | refine w_skip ?_ | refine w_exit ?_ | refine w_ret ?_
    | fail
    )
    exact ⟨rfl, rfl, ⟨by simp only [go_sem, Nat.reduceEqDiff, Nat.reduceAdd, Nat.reduceLeDiff]; exact K7.f2, by simp only [go_sem, Nat.reduceEqDiff, Nat.reduceAdd, Nat.reduceLeDiff]; exact K7.f3, by simp only [go_sem, Nat.reduceEqDiff, Nat.reduceAdd, Nat.reduceLeDiff]; exact K7.f9, by simp only [go_sem, Nat.reduceEqDiff, Nat.reduceAdd, Nat.reduceLeDiff]; exact K7.f10, by simp only [go_sem, Nat.reduceEqDiff, Nat.reduceAdd, Nat.reduceLeDiff]; exact K7.f11⟩, by simp only [go_sem, Nat.reduceEqDiff, Nat.reduceAdd, Nat.reduceLeDiff]; exact g22, by simp only [go_sem, Nat.reduceEqDiff, Nat.reduceAdd, Nat.reduceLeDiff]; exact g25, by simp only [go_sem, Nat.reduceEqDiff, Nat.reduceAdd, Nat.reduceLeDiff]⟩
  rintro fr8 _ ⟨rfl, K8, g22, g25, g27⟩
  have hL1 : (txts (a.take j)).length = j := by rw [txts_len]; exact hll2
  have hL2 : (txts (a.take j ++ q)).length = j + q.length := by rw [txts_len, List.length_append, hll2]
  have hL3 : (txts a).length = a.length := txts_len a
  have k11 := K8.f11.trans f11
  have k10 := K8.f10
  have hlp : lenP (fr1 10) = some a.length := by rw [hg3.lenP, hL3]
  refine w_seqC (fun fr σ => σ3 = σ ∧ fr 10 = fr1 10 ∧ fr 25 = .sl (txts (a.take j)) ∧ fr 27 = .sl (txts (a.take j ++ q))) ?_ ?_
  · have d1 : decide ((j : Int) < (k : Int)) = false := by rw [decide_eq_false_iff_not]; omega
    have d2 : decide ((j : Int) > (a.length : Int)) = false := by rw [decide_eq_false_iff_not]; omega
    have d3 : decide (((j + q.length : Nat) : Int) < (j : Int)) = false := by rw [decide_eq_false_iff_not]; omega
    (repeat' first
    | refine w_seq ?_ | refine w_rg ?_ | refine wo_nil ?_ | refine g_skU ?_ | refine g_skT ?_ | refine g_skF ?_
    | ((first | apply s_plain | apply s_void | apply s_guard | apply g_goT | apply g_goF); · simp only [go_sem, Nat.reduceEqDiff, Nat.reduceAdd, Nat.reduceLeDiff, g22, g25, g27, k11, k10, hlp, hL1, hL2, hL3, d1, d2, d3, hal, hne0]; (first | done | rfl))
    | ((first | apply g_T | apply g_F | apply g_gT | apply g_gF); · intro q1_; (first | intro q2_ | have q2_ := q1_); simp only [go_sem, Nat.reduceEqDiff, Nat.reduceAdd, Nat.reduceLeDiff, g22, g25, g27, k11, k10, hlp, hL1, hL2, hL3, d1, d2, d3, hal, hne0, q1_, q2_]; (first | done | rfl))
    | (apply w_condX; · simp only [go_sem, Nat.reduceEqDiff, Nat.reduceAdd, Nat.reduceLeDiff, g22, g25, g27, k11, k10, hlp, hL1, hL2, hL3, d1, d2, d3, hal, hne0]; (first | done | rfl)); (first | refine wcd_T ?_ | refine wcd_F ?_)
    | refine w_skip ?_ | refine w_exit ?_ | refine w_ret ?_
    | fail
    )
    exact ⟨rfl, rfl, by simp only [go_sem, Nat.reduceEqDiff, Nat.reduceAdd, Nat.reduceLeDiff]; exact k10, by simp only [go_sem, Nat.reduceEqDiff, Nat.reduceAdd, Nat.reduceLeDiff]; exact g25, by simp only [go_sem, Nat.reduceEqDiff, Nat.reduceAdd, Nat.reduceLeDiff]; exact g27⟩
  rintro fr9 _ ⟨rfl, g10, g25, g27⟩
  have b2 : bound a.length (.sc (.int .i64 (j : Int))) = some j := by simp only [bound]; rw [if_pos (by omega)]; rfl
  have b3 : bound (j + q.length) (.sc (.int .i64 (j : Int))) = some j := by simp only [bound]; rw [if_pos (by omega)]; rfl
  have t1 : (txts (a.take j ++ q)).take j = txts (a.take j) := by
    simp only [txts, ← List.map_take]
    rw [List.take_append_of_le_length (by omega), List.take_of_length_le (by omega)]
  have t2 : (txts a).take j = txts (a.take j) := by simp only [txts, List.map_take]
  have cT : ∀ l : List (List UInt8), (txts l).all (fun x => (cellsOf x).length == 1) = true := by intro l; simp [txts, txt, cellsOf]
  obtain ⟨pp, hs5, hfz5⟩ : ∃ pp, (∀ fr : Fr, ∀ t : Nat, fr t = .sc (.int .i64 (j : Int)) → slcLP 1 fr (fr1 10) none (some (.t t)) = some pp) ∧ ∀ d, fz σ3 (d + 2) pp = some (.sl (txts (a.take j))) := by
    rcases hg3 with ⟨hp, hx⟩ | ⟨og, gg, wr, hog, hp, hm3, _⟩
    · have h0 : a.length = 0 := by rw [← hL3, hx]; rfl
      have hj0 : j = 0 := by omega
      subst hj0
      rw [hp]
      refine ⟨.em, fun fr t ht => ?_, fun d => rfl⟩
      simp only [slcLP, hiOf, pa, ht, bound]
      rfl
    · rw [hp, hL3]
      refine ⟨.ob og gg 1 (0 + 0) (j - 0), fun fr t ht => ?_, fun d => ?_⟩
      · simp only [slcLP, if_true, hiOf, pa, ht, b2, Option.bind_some, loOf]
      · rw [fz_ob, hm3]
        simp only
        rw [if_pos ⟨trivial, by omega⟩, List.drop_zero, Nat.sub_zero, t2, txts_fz]
        rfl
  (repeat' first
    | refine w_seq ?_ | refine w_rg ?_ | refine wo_nil ?_ | refine g_skU ?_ | refine g_skT ?_ | refine g_skF ?_
    | ((first | apply s_plain | apply s_void | apply s_guard | apply g_goT | apply g_goF); · simp only [go_sem, Nat.reduceEqDiff, Nat.reduceAdd, Nat.reduceLeDiff, g10, g25, g27, hL1, hL2, hs5, hfz5, slcLP_sl, cT, b3, t1, w2]; (first | done | rfl))
    | ((first | apply g_T | apply g_F | apply g_gT | apply g_gF); · intro q1_; (first | intro q2_ | have q2_ := q1_); simp only [go_sem, Nat.reduceEqDiff, Nat.reduceAdd, Nat.reduceLeDiff, g10, g25, g27, hL1, hL2, hs5, hfz5, slcLP_sl, cT, b3, t1, w2, q1_, q2_]; (first | done | rfl))
    | (apply w_condX; · simp only [go_sem, Nat.reduceEqDiff, Nat.reduceAdd, Nat.reduceLeDiff, g10, g25, g27, hL1, hL2, hs5, hfz5, slcLP_sl, cT, b3, t1, w2]; (first | done | rfl)); (first | refine wcd_T ?_ | refine wcd_F ?_)
    | refine w_skip ?_ | refine w_exit ?_ | refine w_ret ?_
    | fail
    )
  exact hQ _ _ (by simp only [go_sem, Nat.reduceEqDiff, Nat.reduceAdd, Nat.reduceLeDiff])
end

section
variable {env : Nat → Option Def} {fr : Fr} {σ σ' σ'' : St} {K : Fr → St → Prop} {Q : X → Fr → St → Prop} {p : PV} {bs : List UInt8}
theorem a250 (H : Rd9 env) (G : Has ljf env) (G2 : Has ljg env) (C : Has ljl env) (R1 : Has lib env) (R2 : Has lic env) (R3 : Has lie env) (S : Has lii env) (M : Has ljm env) (hal : AV env 254 [] = some (.sc (.bool true))) {ls : List (List UInt8)} (hls : ls.length ≤ 9223372036854775807) (sy : List Bool) (kp : Int) (bh : List UInt8) :
    AV env 250 [.sl (txts ls), .sl (bls sy), .sc (.int .i64 kp), txt bh] = some (.sc (.bool true)) := by
  have hll := txts_len ls
  refine AV_wp (M (250, d250) (by simp [ljm])) rfl ?_
  (repeat' first
    | refine w_seq ?_ | refine w_rg ?_ | refine wo_nil ?_ | refine g_skU ?_ | refine g_skT ?_ | refine g_skF ?_
    | ((first | apply s_plain | apply s_void | apply s_guard | apply g_goT | apply g_goF); · simp only [go_sem, Nat.reduceEqDiff, Nat.reduceAdd, Nat.reduceLeDiff, hll, List.set_cons_succ]; (first | done | rfl))
    | ((first | apply g_T | apply g_F | apply g_gT | apply g_gF); · intro q1_; (first | intro q2_ | have q2_ := q1_); simp only [go_sem, Nat.reduceEqDiff, Nat.reduceAdd, Nat.reduceLeDiff, hll, List.set_cons_succ, q1_, q2_]; (first | done | rfl))
    | fail
    )
  refine w_cutB (fun fr σ => ∃ i, TearP ls i fr σ ∧ fr 9 = .bx 2000009 0 1 0 0 ∧ fr 2 = .sc (.int .i64 kp) ∧ fr 3 = txt bh) ?_ ?_
  · refine w_rangeF ls.length hls (fun i fr σ => i ≤ 12 ∧ TearP ls i fr σ) ⟨by decide, rfl, rfl⟩ (fun _ _ _ _ h => ⟨⟨h.1, ⟨h.2.q, h.2.f, h.2.c⟩⟩, ⟨h.1, ⟨h.2.q, h.2.f, h.2.c⟩⟩, ⟨h.1, ⟨h.2.q, h.2.f, h.2.c⟩⟩⟩) ⟨by omega, ⟨⟨[], 0, .em, rfl, by simp, by simp, rfl, .em, by simp only [go_sem, Nat.reduceEqDiff, Nat.reduceAdd, Nat.reduceLeDiff], rfl, rfl, rfl, fun _ _ => rfl⟩, Fresh.nil.new _ _, by simp [new_c]⟩⟩ (by simp only [go_sem, Nat.reduceEqDiff, Nat.reduceAdd, Nat.reduceLeDiff]; first | done | rfl) (by simp only [go_sem, Nat.reduceEqDiff, Nat.reduceAdd, Nat.reduceLeDiff, hll]; first | done | rfl) ?_ ?_
    · rintro i fr1 σ1 hi ⟨hi12, ⟨⟨a, k, p0, ea, ha, hk, f11, hg, m9, cp, okp, clp, hfz⟩, hF, hc9⟩⟩ hti hfr
      have f0_1 := hfr 1 rfl; have f0_9 := hfr 9 rfl; have f0_29 := hfr 29 rfl; have f0_30 := hfr 30 rfl; try (simp only [go_sem, Nat.reduceEqDiff, Nat.reduceAdd, Nat.reduceLeDiff] at f0_1); try (simp only [go_sem, Nat.reduceEqDiff, Nat.reduceAdd, Nat.reduceLeDiff] at f0_9); try (simp only [go_sem, Nat.reduceEqDiff, Nat.reduceAdd, Nat.reduceLeDiff] at f0_29); try (simp only [go_sem, Nat.reduceEqDiff, Nat.reduceAdd, Nat.reduceLeDiff] at f0_30)
      have hx := List.getElem?_eq_getElem hi
      have hxt : (txts ls)[i]? = some (txt ls[i]) := by rw [txts, List.getElem?_map, hx]; rfl
      have e1 : (0 : Int) ≤ (i : Int) ∧ (i : Int) < (ls.length : Int) := by omega
      have hal' : a.length = i := by rw [ea, List.length_map, List.length_take]; omega
      have hsm : ∀ x ∈ a, x.length ≤ 100 := by
        intro x hx
        rw [ea] at hx
        simp only [List.mem_map] at hx
        obtain ⟨y, _, rfl⟩ := hx
        exact take_le9 y 100
      refine w_block ?_
      by_cases h12 : i < 12
      · have hge : decide ((i : Int) ≥ 12) = false := by rw [decide_eq_false_iff_not]; omega
        have b1 : ∀ (n : Nat) (k : IntKind), bound n (.sc (.int k (min (n : Int) 100))) = some (min n 100) := fun n k => bound_min rfl
        have c1 := cut_take ls[i] 100
        have hea : a ++ [ls[i].take 100] = (ls.take (i + 1)).map (fun x => x.take 100) := by
          rw [ea, List.take_succ_eq_append_getElem hi, List.map_append, List.map_singleton]
        have hdl := take_le9 ls[i] 100
        generalize ls[i].take 100 = d at c1 hea hdl
        generalize ls[i] = x at hx hxt c1
        have hrec := a261 R1 R2 R3 (d := d) (by omega)
        rw [if_neg (by omega)] at hrec
        have hsm2 : ∀ x ∈ a ++ [d], x.length ≤ 100 := by
          intro x hx
          rcases List.mem_append.1 hx with h | h
          · exact hsm x h
          · simp only [List.mem_singleton] at h; subst h; exact hdl
        have hrl := recB_l1 hdl
        have hls0 := logB_sm (k := k) ha hsm
        have hdo : AV env 255 [.agg [.sl (fls (logB a k))], .agg [.sc (.int .i64 1), .sc (.string ⟨#[108, 111, 103]⟩), txt (recB d)]] = some (.tu [.agg [.sl (fls (logB (a ++ [d]) k))], .sc (.int .i64 0)]) := by
          have h := H.do G G2 (l := logB a k) (o := ⟨1, logN, recB d⟩) (by omega) hls0.2 ⟨show (3 : Nat) ≤ _ by decide, show (recB d).length ≤ _ by omega⟩
          rw [logB_w ha hsm hdl hk] at h
          exact h
        have hne : ((0 : Int) != 0) = false := rfl
        (repeat' first
    | refine w_seq ?_ | refine w_rg ?_ | refine wo_nil ?_ | refine g_skU ?_ | refine g_skT ?_ | refine g_skF ?_
    | ((first | apply s_plain | apply s_void | apply s_guard | apply g_goT | apply g_goF); · simp only [go_sem, Nat.reduceEqDiff, Nat.reduceAdd, Nat.reduceLeDiff, f0_1, f0_9, f0_29, f0_30, hti, e1, hll, Int.toNat_natCast, hxt, hge, mn2, b1, c1, hrec, m9, cp, hdo, hne, List.drop_zero, List.size_toArray, List.set_cons_succ, hfz, clp]; (first | done | rfl))
    | ((first | apply g_T | apply g_F | apply g_gT | apply g_gF); · intro q1_; (first | intro q2_ | have q2_ := q1_); simp only [go_sem, Nat.reduceEqDiff, Nat.reduceAdd, Nat.reduceLeDiff, f0_1, f0_9, f0_29, f0_30, hti, e1, hll, Int.toNat_natCast, hxt, hge, mn2, b1, c1, hrec, m9, cp, hdo, hne, List.drop_zero, List.size_toArray, List.set_cons_succ, hfz, clp, q1_, q2_]; (first | done | rfl))
    | (apply w_condX; · simp only [go_sem, Nat.reduceEqDiff, Nat.reduceAdd, Nat.reduceLeDiff, f0_1, f0_9, f0_29, f0_30, hti, e1, hll, Int.toNat_natCast, hxt, hge, mn2, b1, c1, hrec, m9, cp, hdo, hne, List.drop_zero, List.size_toArray, List.set_cons_succ, hfz, clp]; (first | done | rfl)); (first | refine wcd_T ?_ | refine wcd_F ?_)
    | refine w_skip ?_ | refine w_exit ?_ | refine w_ret ?_
    | fail
    )
        refine s_gat2 (d := 68) (t := 61) (x := .t 67) (xs := txts a) (e := txt d) (by simp only [go_sem, Nat.reduceEqDiff, Nat.reduceAdd, Nat.reduceLeDiff]; exact ((hg.new _).put (d := 2000016) (by decide) _).new _) ((((Kp.refl (P := (2000000 ≤ ·)) hF).new 2000016 ⟨1, [.agg [.em]], true, true⟩).put (x := ⟨1, [.agg [.em]], true, true⟩) (o := 2000016) (g := σ1.c 2000016) (by simp only [go_sem, Nat.reduceEqDiff, Nat.reduceAdd, Nat.reduceLeDiff]) (.inr (Nat.le_refl _)) _).new 67 _).f (by simp only [go_sem, Nat.reduceEqDiff, Nat.reduceAdd, Nat.reduceLeDiff, srcOf, elemsOf, List.set_cons_succ]) rfl rfl (by rw [txts_len]; omega) ?_
        intro p2 σ2 hg2 hF2 _ hm2 hc2 hd2
        have n9 : σ2.m 2000009 0 = some ⟨1, [.agg [p0]], true, true⟩ := by rw [hm2 _ _ (by decide)]; simp only [go_sem, Nat.reduceEqDiff, Nat.reduceAdd, Nat.reduceLeDiff, m9]
        have nc9 : 0 < σ2.c 2000009 := by rw [hc2 _ (by decide)]; simp only [go_sem, Nat.reduceEqDiff, Nat.reduceAdd, Nat.reduceLeDiff]; exact hc9
        (repeat' first
    | refine w_seq ?_ | refine w_rg ?_ | refine wo_nil ?_ | refine g_skU ?_ | refine g_skT ?_ | refine g_skF ?_
    | ((first | apply s_plain | apply s_void | apply s_guard | apply g_goT | apply g_goF); · simp only [go_sem, Nat.reduceEqDiff, Nat.reduceAdd, Nat.reduceLeDiff, f0_1, f0_9, f0_29, f0_30, n9, List.set_cons_succ]; (first | done | rfl))
    | ((first | apply g_T | apply g_F | apply g_gT | apply g_gF); · intro q1_; (first | intro q2_ | have q2_ := q1_); simp only [go_sem, Nat.reduceEqDiff, Nat.reduceAdd, Nat.reduceLeDiff, f0_1, f0_9, f0_29, f0_30, n9, List.set_cons_succ, q1_, q2_]; (first | done | rfl))
    | (apply w_condX; · simp only [go_sem, Nat.reduceEqDiff, Nat.reduceAdd, Nat.reduceLeDiff, f0_1, f0_9, f0_29, f0_30, n9, List.set_cons_succ]; (first | done | rfl)); (first | refine wcd_T ?_ | refine wcd_F ?_)
    | refine w_skip ?_ | refine w_exit ?_ | refine w_ret ?_
    | fail
    )
        have htx : txts (a ++ [d]) = txts a ++ [txt d] := by simp only [txts, List.map_append, List.map_singleton]
        rw [← htx] at hg2
        have hg3 := hg2.put (d := 2000009) (k := 0) (by decide) (some ⟨1, [.agg [.sl (fls (logB (a ++ [d]) k))]], true, true⟩)
        have hF3 := hF2.put n9 (some ⟨1, [.agg [.sl (fls (logB (a ++ [d]) k))]], true, true⟩)
        have o9 : (σ2.put 2000009 0 (some ⟨1, [.agg [.sl (fls (logB (a ++ [d]) k))]], true, true⟩)).m 2000009 0 = some ⟨1, [.agg [.sl (fls (logB (a ++ [d]) k))]], true, true⟩ := by simp only [go_sem, Nat.reduceEqDiff, Nat.reduceAdd, Nat.reduceLeDiff]
        have oc9 : 0 < (σ2.put 2000009 0 (some ⟨1, [.agg [.sl (fls (logB (a ++ [d]) k))]], true, true⟩)).c 2000009 := by simp only [go_sem, Nat.reduceEqDiff, Nat.reduceAdd, Nat.reduceLeDiff]; exact nc9
        have hbl : (bls sy).length = sy.length := by unfold bls; rw [List.length_map]
        have hl2 : (a ++ [d]).length = i + 1 := by rw [List.length_append, hal']; rfl
        generalize (σ2.put 2000009 0 (some ⟨1, [.agg [.sl (fls (logB (a ++ [d]) k))]], true, true⟩)) = σ3 at hg3 hF3 o9 oc9 ⊢
        have hne2 : a ++ [d] ≠ [] := by simp
        have hk2 : k ≤ (a ++ [d]).length := by omega
        generalize a ++ [d] = a2 at hea hsm2 hg3 o9 hl2 hne2 hk2
        by_cases hs : i < sy.length
        · have hcs : decide ((i : Int) < (sy.length : Int)) = true := by rw [decide_eq_true_eq]; omega
          have e2 : (0 : Int) ≤ (i : Int) ∧ (i : Int) < (sy.length : Int) := by omega
          have hq : (bls sy)[i]? = some (.sc (.bool sy[i])) := by unfold bls; rw [List.getElem?_map, List.getElem?_eq_getElem hs]; rfl
          cases hb : sy[i] with
          | true =>
            rw [hb] at hq
            have hls2 := logB_sm (k := k) (show a2.length ≤ 12 by omega) hsm2
            have hdo2 : AV env 255 [.agg [.sl (fls (logB a2 k))], .agg [.sc (.int .i64 2), .sc (.string ⟨#[108, 111, 103]⟩), .sc (.string ⟨#[]⟩)]] = some (.tu [.agg [.sl (fls (logB a2 a2.length))], .sc (.int .i64 0)]) := by
              have h := H.do G G2 (l := logB a2 k) (o := ⟨2, logN, []⟩) (by omega) hls2.2 ⟨show (3 : Nat) ≤ _ by decide, by simp⟩
              rw [logB_s (by omega) hsm2 hne2] at h
              exact h
            simp only [hbl, hcs]
            (repeat' first
    | refine w_seq ?_ | refine w_rg ?_ | refine wo_nil ?_ | refine g_skU ?_ | refine g_skT ?_ | refine g_skF ?_
    | ((first | apply s_plain | apply s_void | apply s_guard | apply g_goT | apply g_goF); · simp only [go_sem, Nat.reduceEqDiff, Nat.reduceAdd, Nat.reduceLeDiff, f0_1, f0_9, f0_29, f0_30, hbl, hcs, e2, hq, Int.toNat_natCast, o9, hdo2, hne, List.set_cons_succ]; (first | done | rfl))
    | ((first | apply g_T | apply g_F | apply g_gT | apply g_gF); · intro q1_; (first | intro q2_ | have q2_ := q1_); simp only [go_sem, Nat.reduceEqDiff, Nat.reduceAdd, Nat.reduceLeDiff, f0_1, f0_9, f0_29, f0_30, hbl, hcs, e2, hq, Int.toNat_natCast, o9, hdo2, hne, List.set_cons_succ, q1_, q2_]; (first | done | rfl))
    | (apply w_condX; · simp only [go_sem, Nat.reduceEqDiff, Nat.reduceAdd, Nat.reduceLeDiff, f0_1, f0_9, f0_29, f0_30, hbl, hcs, e2, hq, Int.toNat_natCast, o9, hdo2, hne, List.set_cons_succ]; (first | done | rfl)); (first | refine wcd_T ?_ | refine wcd_F ?_)
    | refine w_skip ?_ | refine w_exit ?_ | refine w_ret ?_
    | fail
    )
            refine s_plain (gat_len (hg3.put (d := 2000009) (k := 0) (by decide) (some ⟨1, [.agg [.sl (fls (logB a2 a2.length))]], true, true⟩)) (by simp only [go_sem, Nat.reduceEqDiff, Nat.reduceAdd, Nat.reduceLeDiff])) ?_
            rw [txts_len]
            (repeat' first
    | refine w_seq ?_ | refine w_rg ?_ | refine wo_nil ?_ | refine g_skU ?_ | refine g_skT ?_ | refine g_skF ?_
    | ((first | apply s_plain | apply s_void | apply s_guard | apply g_goT | apply g_goF); · simp only [go_sem, Nat.reduceEqDiff, Nat.reduceAdd, Nat.reduceLeDiff]; (first | done | rfl))
    | ((first | apply g_T | apply g_F | apply g_gT | apply g_gF); · intro q1_; (first | intro q2_ | have q2_ := q1_); simp only [go_sem, Nat.reduceEqDiff, Nat.reduceAdd, Nat.reduceLeDiff, q1_, q2_]; (first | done | rfl))
    | (apply w_condX; · simp only [go_sem, Nat.reduceEqDiff, Nat.reduceAdd, Nat.reduceLeDiff]; (first | done | rfl)); (first | refine wcd_T ?_ | refine wcd_F ?_)
    | refine w_skip ?_ | refine w_exit ?_ | refine w_ret ?_
    | fail
    )
            try simp only [if_true]
            exact ⟨by omega, ⟨⟨a2, a2.length, .sl (fls (logB a2 a2.length)), hea, by omega, Nat.le_refl _, by simp only [go_sem, Nat.reduceEqDiff, Nat.reduceAdd, Nat.reduceLeDiff], by simp only [go_sem, Nat.reduceEqDiff, Nat.reduceAdd, Nat.reduceLeDiff]; exact hg3.put (by decide) _, by simp only [go_sem, Nat.reduceEqDiff, Nat.reduceAdd, Nat.reduceLeDiff], rfl, rfl, rfl, fun _ _ => rfl⟩, hF3.put o9 _, by simp only [go_sem, Nat.reduceEqDiff, Nat.reduceAdd, Nat.reduceLeDiff]; exact oc9⟩⟩
          | false =>
            rw [hb] at hq
            simp only [hbl, hcs]
            (repeat' first
    | refine w_seq ?_ | refine w_rg ?_ | refine wo_nil ?_ | refine g_skU ?_ | refine g_skT ?_ | refine g_skF ?_
    | ((first | apply s_plain | apply s_void | apply s_guard | apply g_goT | apply g_goF); · simp only [go_sem, Nat.reduceEqDiff, Nat.reduceAdd, Nat.reduceLeDiff, f0_1, f0_9, f0_29, f0_30, hbl, hcs, e2, hq, Int.toNat_natCast, o9, List.set_cons_succ]; (first | done | rfl))
    | ((first | apply g_T | apply g_F | apply g_gT | apply g_gF); · intro q1_; (first | intro q2_ | have q2_ := q1_); simp only [go_sem, Nat.reduceEqDiff, Nat.reduceAdd, Nat.reduceLeDiff, f0_1, f0_9, f0_29, f0_30, hbl, hcs, e2, hq, Int.toNat_natCast, o9, List.set_cons_succ, q1_, q2_]; (first | done | rfl))
    | (apply w_condX; · simp only [go_sem, Nat.reduceEqDiff, Nat.reduceAdd, Nat.reduceLeDiff, f0_1, f0_9, f0_29, f0_30, hbl, hcs, e2, hq, Int.toNat_natCast, o9, List.set_cons_succ]; (first | done | rfl)); (first | refine wcd_T ?_ | refine wcd_F ?_)
    | refine w_skip ?_ | refine w_exit ?_ | refine w_ret ?_
    | fail
    )
            try simp only [if_true]
            exact ⟨by omega, ⟨⟨a2, k, .sl (fls (logB a2 k)), hea, by omega, by omega, by simp only [go_sem, Nat.reduceEqDiff, Nat.reduceAdd, Nat.reduceLeDiff, f0_1, f0_9, f0_29, f0_30]; exact f11, by simp only [go_sem, Nat.reduceEqDiff, Nat.reduceAdd, Nat.reduceLeDiff]; exact hg3, o9, rfl, rfl, rfl, fun _ _ => rfl⟩, hF3, oc9⟩⟩
        · have hcs : decide ((i : Int) < (sy.length : Int)) = false := by rw [decide_eq_false_iff_not]; omega
          simp only [hbl, hcs]
          (repeat' first
    | refine w_seq ?_ | refine w_rg ?_ | refine wo_nil ?_ | refine g_skU ?_ | refine g_skT ?_ | refine g_skF ?_
    | ((first | apply s_plain | apply s_void | apply s_guard | apply g_goT | apply g_goF); · simp only [go_sem, Nat.reduceEqDiff, Nat.reduceAdd, Nat.reduceLeDiff, f0_1, f0_9, f0_29, f0_30, hbl, hcs, Int.toNat_natCast, o9, List.set_cons_succ]; (first | done | rfl))
    | ((first | apply g_T | apply g_F | apply g_gT | apply g_gF); · intro q1_; (first | intro q2_ | have q2_ := q1_); simp only [go_sem, Nat.reduceEqDiff, Nat.reduceAdd, Nat.reduceLeDiff, f0_1, f0_9, f0_29, f0_30, hbl, hcs, Int.toNat_natCast, o9, List.set_cons_succ, q1_, q2_]; (first | done | rfl))
    | (apply w_condX; · simp only [go_sem, Nat.reduceEqDiff, Nat.reduceAdd, Nat.reduceLeDiff, f0_1, f0_9, f0_29, f0_30, hbl, hcs, Int.toNat_natCast, o9, List.set_cons_succ]; (first | done | rfl)); (first | refine wcd_T ?_ | refine wcd_F ?_)
    | refine w_skip ?_ | refine w_exit ?_ | refine w_ret ?_
    | fail
    )
          try simp only [if_true]
          exact ⟨by omega, ⟨⟨a2, k, .sl (fls (logB a2 k)), hea, by omega, by omega, by simp only [go_sem, Nat.reduceEqDiff, Nat.reduceAdd, Nat.reduceLeDiff, f0_1, f0_9, f0_29, f0_30]; exact f11, by simp only [go_sem, Nat.reduceEqDiff, Nat.reduceAdd, Nat.reduceLeDiff]; exact hg3, o9, rfl, rfl, rfl, fun _ _ => rfl⟩, hF3, oc9⟩⟩
      · have hge : decide ((i : Int) ≥ 12) = true := by rw [decide_eq_true_eq]; omega
        (repeat' first
    | refine w_seq ?_ | refine w_rg ?_ | refine wo_nil ?_ | refine g_skU ?_ | refine g_skT ?_ | refine g_skF ?_
    | ((first | apply s_plain | apply s_void | apply s_guard | apply g_goT | apply g_goF); · simp only [go_sem, Nat.reduceEqDiff, Nat.reduceAdd, Nat.reduceLeDiff, f0_1, f0_9, f0_29, f0_30, hti, e1, hll, Int.toNat_natCast, hxt, hge]; (first | done | rfl))
    | ((first | apply g_T | apply g_F | apply g_gT | apply g_gF); · intro q1_; (first | intro q2_ | have q2_ := q1_); simp only [go_sem, Nat.reduceEqDiff, Nat.reduceAdd, Nat.reduceLeDiff, f0_1, f0_9, f0_29, f0_30, hti, e1, hll, Int.toNat_natCast, hxt, hge, q1_, q2_]; (first | done | rfl))
    | (apply w_condX; · simp only [go_sem, Nat.reduceEqDiff, Nat.reduceAdd, Nat.reduceLeDiff, f0_1, f0_9, f0_29, f0_30, hti, e1, hll, Int.toNat_natCast, hxt, hge]; (first | done | rfl)); (first | refine wcd_T ?_ | refine wcd_F ?_)
    | refine w_skip ?_ | refine w_exit ?_ | refine w_ret ?_
    | fail
    )
        try simp only [if_true]
        exact ⟨i, ⟨⟨a, k, p0, ea, ha, hk, by simp only [go_sem, Nat.reduceEqDiff, Nat.reduceAdd, Nat.reduceLeDiff]; exact f11, by simp only [go_sem, Nat.reduceEqDiff, Nat.reduceAdd, Nat.reduceLeDiff]; exact hg, m9, cp, okp, clp, hfz⟩, hF, hc9⟩, by simp only [go_sem, Nat.reduceEqDiff, Nat.reduceAdd, Nat.reduceLeDiff, f0_1, f0_9, f0_29, f0_30], by simp only [go_sem, Nat.reduceEqDiff, Nat.reduceAdd, Nat.reduceLeDiff]; exact (hfr 2 rfl).trans rfl, by simp only [go_sem, Nat.reduceEqDiff, Nat.reduceAdd, Nat.reduceLeDiff]; exact (hfr 3 rfl).trans rfl⟩
    · rintro fr1 σ1 ⟨_, ht⟩ hfr
      have e0_2 := hfr 2 rfl; have e0_3 := hfr 3 rfl; have e0_9 := hfr 9 rfl; try (simp only [go_sem, Nat.reduceEqDiff, Nat.reduceAdd, Nat.reduceLeDiff] at e0_2); try (simp only [go_sem, Nat.reduceEqDiff, Nat.reduceAdd, Nat.reduceLeDiff] at e0_3); try (simp only [go_sem, Nat.reduceEqDiff, Nat.reduceAdd, Nat.reduceLeDiff] at e0_9)
      try simp only [if_true]
      exact ⟨_, ht, by simp only [e0_2, e0_3, e0_9], by simp only [e0_2, e0_3, e0_9], by simp only [e0_2, e0_3, e0_9]⟩
  · rintro fr1 σ1 ⟨i, hT, f9, f2, f3⟩
    exact tearsEnd H C R1 R2 R3 S hal hT f9 f2 f3 fun fr σ h8 => ⟨.inr rfl, by simp only [retOf, resOf, List.mapM_cons, List.mapM_nil, h8]; rfl⟩
end

end
end Go.Proofs.YtemoboghbdcjkaaDoorPv
