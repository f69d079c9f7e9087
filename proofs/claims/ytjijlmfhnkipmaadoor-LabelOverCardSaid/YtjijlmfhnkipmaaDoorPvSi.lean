/-
What the law's own cuts answer.
-/
import Derived.Test.YtjijlmfhnkipmaaDoorPvSh
namespace Go.Proofs.YtjijlmfhnkipmaaDoorPv
open Go
set_option linter.unusedSimpArgs false
set_option linter.unusedVariables false
set_option maxHeartbeats 4000000
attribute [local go_sem ↓] e_mv e_pick e_bin e_eqs e_beq e_un e_cvi e_str e_s2b e_b2s e_box e_build e_bsl e_ld e_st e_nck e_mkf e_slcS e_slcL e_fa e_fld e_ia e_iaa e_ix e_ixa e_ext e_lenS e_lenL e_mnmx e_app e_msl e_clr e_call e_callv pa_t pa_c pa_f slcSP_str hiOf_some hiOf_none loOf_some loOf_none set_eq set_ne
attribute [local go_sem] pv pv1 simple frOf_0 frOf_1 frOf_2 frOf_3 frOf_4 frOf_5 ne_eq not_false_eq_true if_true Bool.false_eq_true if_false pbin punary Option.map_some Option.bind_some pick_and pick_or opt_true Bool.true_and Bool.and_self Bool.and_true Bool.true_or Bool.false_or Bool.not_true Bool.not_false callE pcall_eq List.map_cons List.map_nil List.append_nil List.nil_append List.cons_append mapM_cons' mapM_nil' dep_eq fz_sc fz_sl fz_em fz_fn fz_fp fz_agg fz_bx fz_ob Nat.lt_irrefl Nat.zero_lt_one Nat.lt_add_one flat clL cl Bool.or_true okc cells_agg cells_sc cells_sl cells_em cells_ob cells_fn cells_bx cells_fp List.length_cons List.length_nil Nat.zero_add and_self true_and and_true new_m new_c put_m put_c nil_m nil_c deref List.getElem?_cons_zero List.getElem?_cons_succ List.drop_zero List.drop_succ_cons List.take_succ_cons List.take_zero Nat.le_refl false_and and_false
set_option maxRecDepth 8000

/-- transhipment/transhipmentlaw08.few -/
def d108 : Def := (.code 1 [.tmp 2] (.seq (.rg false [⟨.some 2, .none, .mv (.c (.slice .none 0 0))⟩]) (.seq (.rg false [⟨.some 3, .none, .mv (.c (.slice .none 0 0))⟩]) (.seq (.seq (.rg false [⟨.some 6, .none, .mv (.t 0)⟩, ⟨.some 7, .none, .mv (.t 0)⟩, ⟨.some 8, .none, .lenL (.t 7)⟩, ⟨.some 9, .none, .mnmx false [.t 8, .c (.int .i64 10)]⟩, ⟨.some 10, .none, .slcL 2 (.t 6) .none (.some (.t 9))⟩, ⟨.some 11, .none, .lenL (.t 10)⟩, ⟨.some 12, .none, .mv (.c (.int .i64 0))⟩]) (.block 0 (.loop (.seq (.rg false [⟨.some 13, .none, .bin .lss (.t 12) (.t 11)⟩]) (.seq (.cond (.t 13) .skip (.exit 0)) (.seq (.block 1 (.seq (.rg false [⟨.some 14, .none, .ia 2 (.t 10) (.t 12)⟩, ⟨.some 15, .none, .ld (.some 2) (.t 14)⟩, ⟨.some 5, .none, .box (.c (.agg #[.string ⟨#[]⟩, .string ⟨#[]⟩]))⟩, ⟨.none, .none, .st 2 (.t 5) (.t 15)⟩]) (.rg true [⟨.some 16, .none, .mv (.t 3)⟩, ⟨.some 17, .none, .fa 0 (.t 5)⟩, ⟨.some 18, .none, .ld .none (.t 17)⟩, ⟨.some 19, .none, .fa 0 (.t 5)⟩, ⟨.some 20, .none, .ld .none (.t 19)⟩, ⟨.some 21, .none, .lenS (.t 20)⟩, ⟨.some 22, .none, .mnmx false [.t 21, .c (.int .i64 70)]⟩, ⟨.some 23, .none, .slcS (.t 18) .none (.some (.t 22))⟩, ⟨.some 24, .none, .fa 1 (.t 5)⟩, ⟨.some 25, .none, .ld .none (.t 24)⟩, ⟨.some 26, .none, .fa 1 (.t 5)⟩, ⟨.some 27, .none, .ld .none (.t 26)⟩, ⟨.some 28, .none, .lenS (.t 27)⟩, ⟨.some 29, .none, .mnmx false [.t 28, .c (.int .i64 70)]⟩, ⟨.some 30, .none, .slcS (.t 25) .none (.some (.t 29))⟩, ⟨.some 31, .none, .build (.agg #[.string ⟨#[]⟩, .string ⟨#[]⟩]) [(0, (1, .t 23)), (1, (1, .t 30))]⟩, ⟨.some 32, .none, .bsl 2 (.agg #[.string ⟨#[]⟩, .string ⟨#[]⟩]) 1 [(0, .t 31)]⟩, ⟨.some 33, .none, .app 2 32 false (.t 16) (.t 32)⟩, ⟨.some 3, .none, .mv (.t 33)⟩]))) (.rg false [⟨.some 34, .none, .bin .add (.t 12) (.c (.int .i64 1))⟩, ⟨.some 12, .none, .mv (.t 34)⟩]))))))) (.seq (.rg false [⟨.some 35, .none, .mv (.t 3)⟩, ⟨.some 2, .none, .mv (.t 35)⟩]) .ret)))))
/-- transhipment/transhipmentlaw08.cut -/
def d104 : Def := (.code 1 [.cell 2 (.some 8)] (.seq (.rg false [⟨.some 1, .none, .box (.t 0)⟩, ⟨.some 2, .none, .box (.c (.agg #[.string ⟨#[]⟩, .string ⟨#[]⟩, .int .i64 0, .int .i64 0, .int .i64 0, .int .i64 0, .int .i64 0, .slice .none 0 0]))⟩]) (.seq (.rg true [⟨.some 3, .none, .fa 0 (.t 1)⟩, ⟨.some 4, .none, .ld .none (.t 3)⟩, ⟨.some 5, .none, .fa 0 (.t 1)⟩, ⟨.some 6, .none, .ld .none (.t 5)⟩, ⟨.some 7, .none, .lenS (.t 6)⟩, ⟨.some 8, .none, .mnmx false [.t 7, .c (.int .i64 70)]⟩, ⟨.some 9, .none, .slcS (.t 4) .none (.some (.t 8))⟩, ⟨.some 10, .none, .fa 1 (.t 1)⟩, ⟨.some 11, .none, .ld .none (.t 10)⟩, ⟨.some 12, .none, .fa 1 (.t 1)⟩, ⟨.some 13, .none, .ld .none (.t 12)⟩, ⟨.some 14, .none, .lenS (.t 13)⟩, ⟨.some 15, .none, .mnmx false [.t 14, .c (.int .i64 70)]⟩, ⟨.some 16, .none, .slcS (.t 11) .none (.some (.t 15))⟩, ⟨.some 17, .none, .fa 7 (.t 1)⟩, ⟨.some 18, .none, .ld .none (.t 17)⟩, ⟨.some 19, .none, .call 108 .strict [.t 18]⟩, ⟨.some 20, .none, .fa 0 (.t 1)⟩, ⟨.none, .none, .st 1 (.t 20) (.t 9)⟩, ⟨.some 21, .none, .fa 1 (.t 1)⟩, ⟨.none, .none, .st 1 (.t 21) (.t 16)⟩, ⟨.some 22, .none, .fa 7 (.t 1)⟩, ⟨.none, .none, .st 1 (.t 22) (.t 19)⟩]) (.seq (.rg false [⟨.some 23, .none, .ld (.some 8) (.t 1)⟩, ⟨.none, .none, .st 8 (.t 2) (.t 23)⟩]) .ret))))

def li : List (Nat × Def) := [(108, d108), (104, d104)]

section
variable {env : Nat → Option Def} {fr : Fr} {σ : St} {K : Fr → St → Prop}

def cutS (n : Nat) (s : ByteArray) : ByteArray := s.extract 0 (min s.size n)
def cutL (m : Lab) : Lab := (cutS 70 m.1, cutS 70 m.2)
def fewL (l : List Lab) : List Lab := (l.take (min l.length 10)).map cutL

theorem mn2 (a b : Int) : mnmx false [.sc (.int .i64 a), .sc (.int .i64 b)] = some (.sc (.int .i64 (min a b))) := by
  simp only [mnmx, List.foldlM_cons, List.foldlM_nil, mn1, if_true, Bool.false_eq_true, if_false]
  have : (if b < a then b else a) = min a b := by
    rw [Int.min_def]; split <;> split <;> omega
  rw [this]; rfl

theorem slcS_cut (fr : Fr) (t n : Nat) (s : ByteArray) (h : fr t = .sc (.int .i64 (min (s.size : Int) (n : Int)))) : slcSP fr (.sc (.string s)) none (some (.t t)) = some (.sc (.string (cutS n s))) := by
  have e : min (s.size : Int) (n : Int) = ((min s.size n : Nat) : Int) := by omega
  simp only [slcSP, hiOf, pa, h, e, bound, loOf, Option.bind_some]
  have e2 : (0 : Int) ≤ ((min s.size n : Nat) : Int) ∧ ((min s.size n : Nat) : Int) ≤ (s.size : Int) := by omega
  rw [if_pos e2]
  rfl

theorem slcL_cut (fr : Fr) (t n es : Nat) (xs : List PV) (hx : xs.all (fun x => (cellsOf x).length == es) = true) (h : fr t = .sc (.int .i64 (min (xs.length : Int) (n : Int)))) : slcLP es fr (.sl xs) none (some (.t t)) = some (.sl (xs.take (min xs.length n))) := by
  have e : min (xs.length : Int) (n : Int) = ((min xs.length n : Nat) : Int) := by omega
  simp only [slcLP, hx, if_true, hiOf, pa, h, e, bound, loOf, Option.bind_some]
  have e2 : (0 : Int) ≤ ((min xs.length n : Nat) : Int) ∧ ((min xs.length n : Nat) : Int) ≤ (xs.length : Int) := by omega
  rw [if_pos e2]
  simp

/-- What has been gathered: nothing, or an object of one's own. -/
def Got (σ : St) (s es : Nat) (p : PV) (xs : List PV) : Prop := (p = .em ∧ xs = []) ∨ ∃ g wr, p = .ob s g es 0 xs.length ∧ σ.m s g = some ⟨es, xs, true, wr⟩ ∧ g < σ.c s ∧ xs ≠ []

theorem Got.new {s es : Nat} {p : PV} {xs : List PV} (h : Got σ s es p xs) {d : Nat} (hd : s ≠ d) (y : Obj) : Got (σ.new d y) s es p xs := by
  rcases h with h | ⟨g, wr, h1, h2, h3, h4⟩
  · exact .inl h
  · exact .inr ⟨g, wr, h1, by simp only [new_m]; rw [if_neg (fun h => hd h.1)]; exact h2, by simp only [new_c]; rw [if_neg hd]; exact h3, h4⟩

theorem Got.put {s es : Nat} {p : PV} {xs : List PV} (h : Got σ s es p xs) {d k : Nat} (hd : s ≠ d) (y : Option Obj) : Got (σ.put d k y) s es p xs := by
  rcases h with h | ⟨g, wr, h1, h2, h3, h4⟩
  · exact .inl h
  · exact .inr ⟨g, wr, h1, by simp only [put_m]; rw [if_neg (fun h => hd h.1)]; exact h2, by simp only [put_c]; exact h3, h4⟩

/-- One more is gathered. -/
theorem app_one {E : Ev} {s es by_ : Nat} {s' x : PA} {xs : List PV} {e : PV} (hg : Got σ s es (pa fr s') xs) (hsrc : srcOf σ es (pa fr x) = some [e]) (hok : okc e = true) (hl : (cellsOf e).length = es) (hb : (xs.length + 1) * by_ ≤ 70368744177664) :
    ∃ p σ', evO E s fr σ (.app es by_ false s' x) = some (p, σ') ∧ Got σ' s es p (xs ++ [e]) := by
  have hall : ([e].all fun y => okc y && (cellsOf y).length == es) = true := by simp [hok, hl]
  rcases hg with ⟨h1, rfl⟩ | ⟨g, wr, h1, h2, h3, h4⟩
  · refine ⟨.ob s (σ.c s) es 0 1, σ.new s ⟨es, [e], true, true⟩, ?_, .inr ⟨σ.c s, true, rfl, by simp [new_m], by simp [new_c], by simp⟩⟩
    simp only [evO, hsrc, Option.bind_some, hall, if_true, h1]
    rw [if_pos (by simpa using hb)]
    rfl
  · refine ⟨.ob s (σ.c s) es 0 (xs.length + 1), (σ.put s g (some ⟨es, xs, false, false⟩)).new s ⟨es, xs ++ [e], true, false⟩, ?_, .inr ⟨σ.c s, false, by simp, by simp [new_m, put_c], by simp [new_c, put_c], by simp⟩⟩
    simp only [evO, hsrc, Option.bind_some, hall, if_true, h1, h2]
    have hb' : (xs.length + [e].length) * by_ ≤ 70368744177664 := hb
    simp
    simpa using hb

theorem s_app {d t es by_ : Nat} {x : PA} {xs : List PV} {e : PV} {ops : List POp} (hg : Got σ d es (fr t) xs) (hsrc : srcOf σ es (pa fr x) = some [e]) (hok : okc e = true) (hl : (cellsOf e).length = es) (hb : (xs.length + 1) * by_ ≤ 70368744177664)
    (h2 : ∀ p σ', Got σ' d es p (xs ++ [e]) → Wos env ops K (fr.set d p) σ') : Wos env (⟨some d, none, .app es by_ false (.t t) x⟩ :: ops) K fr σ := by
  obtain ⟨p, σ', h3, h4⟩ := app_one (E := EV env) (fr := fr) (s' := .t t) (x := x) hg hsrc hok hl hb
  exact s_plain h3 (h2 p σ' h4)

theorem fewL_len (l : List Lab) : (fewL l).length = min l.length 10 := by simp [fewL]

theorem few_g {k0 : Nat} (hk0 : env k0 = some d108) {l : List Lab} (hn : l.length ≤ 9223372036854775807) : AV env k0 [.sl (labs l)] = some (.sl (labs (fewL l))) := by
  refine AV_wp hk0 rfl ?_
  have hll := labs_len l
  have hall : (labs l).all (fun x => (cellsOf x).length == 2) = true := by
    rw [List.all_eq_true]
    intro x hx
    obtain ⟨m, _, rfl⟩ := List.mem_map.1 hx
    rfl
  (repeat' first
    | refine w_seq ?_
    | refine w_rg ?_
    | refine wo_nil ?_
    | refine s_plain (by simp only [go_sem, Nat.reduceEqDiff, Nat.reduceAdd, Nat.reduceLeDiff, hll, mn2]; first | done | rfl) ?_
    | refine s_void (by simp only [go_sem, Nat.reduceEqDiff, Nat.reduceAdd, Nat.reduceLeDiff, hll, mn2]; first | done | rfl) ?_
    | refine s_guard (by simp only [go_sem, Nat.reduceEqDiff, Nat.reduceAdd, Nat.reduceLeDiff, hll, mn2]; first | done | rfl) ?_
    | refine g_skU ?_
    | refine g_T (by intro hb; simp only [go_sem, Nat.reduceEqDiff, Nat.reduceAdd, Nat.reduceLeDiff, hll, mn2, hb]; first | done | rfl) ?_
    | refine g_F (by intro hb; simp only [go_sem, Nat.reduceEqDiff, Nat.reduceAdd, Nat.reduceLeDiff, hll, mn2, hb]; first | done | rfl) ?_
    | refine g_gT (by intro hb hc; simp only [go_sem, Nat.reduceEqDiff, Nat.reduceAdd, Nat.reduceLeDiff, hll, mn2, hb, hc]; first | done | rfl) ?_
    | refine g_gF (by intro hb hc; simp only [go_sem, Nat.reduceEqDiff, Nat.reduceAdd, Nat.reduceLeDiff, hll, mn2, hb, hc]; first | done | rfl) ?_
    | refine g_skT ?_
    | refine g_skF ?_
    | refine g_goT (by simp only [go_sem, Nat.reduceEqDiff, Nat.reduceAdd, Nat.reduceLeDiff, hll, mn2]; first | done | rfl) ?_
    | refine g_goF (by simp only [go_sem, Nat.reduceEqDiff, Nat.reduceAdd, Nat.reduceLeDiff, hll, mn2]; first | done | rfl) ?_
    )
  refine s_plain (v := .sl ((labs l).take (min l.length 10))) (σ' := St.nil) (by
    simp only [↓e_slcL]
    have h6 : pa _ (.t 6) = .sl (labs l) := (by simp only [go_sem, Nat.reduceEqDiff, Nat.reduceAdd, Nat.reduceLeDiff] : pa (((((((frOf [PV.sl (labs l)]).set 2 PV.em).set 3 PV.em).set 6 (PV.sl (labs l))).set 7 (PV.sl (labs l))).set 8 (PV.sc (Value.int IntKind.i64 l.length))).set 9 (PV.sc (Value.int IntKind.i64 (min (l.length : Int) 10)))) (.t 6) = .sl (labs l))
    rw [h6, slcL_cut _ 9 10 2 (labs l) hall (by simp only [go_sem, Nat.reduceEqDiff, Nat.reduceAdd, Nat.reduceLeDiff, hll]; rfl), hll]
    rfl) ?_
  have hlt : ((labs l).take (min l.length 10)).length = min l.length 10 := by rw [List.length_take, hll]; omega
  (repeat' first
    | refine w_seq ?_
    | refine w_rg ?_
    | refine wo_nil ?_
    | refine s_plain (by simp only [go_sem, Nat.reduceEqDiff, Nat.reduceAdd, Nat.reduceLeDiff, hlt]; first | done | rfl) ?_
    | refine s_void (by simp only [go_sem, Nat.reduceEqDiff, Nat.reduceAdd, Nat.reduceLeDiff, hlt]; first | done | rfl) ?_
    | refine s_guard (by simp only [go_sem, Nat.reduceEqDiff, Nat.reduceAdd, Nat.reduceLeDiff, hlt]; first | done | rfl) ?_
    | refine g_skU ?_
    | refine g_T (by intro hb; simp only [go_sem, Nat.reduceEqDiff, Nat.reduceAdd, Nat.reduceLeDiff, hlt, hb]; first | done | rfl) ?_
    | refine g_F (by intro hb; simp only [go_sem, Nat.reduceEqDiff, Nat.reduceAdd, Nat.reduceLeDiff, hlt, hb]; first | done | rfl) ?_
    | refine g_gT (by intro hb hc; simp only [go_sem, Nat.reduceEqDiff, Nat.reduceAdd, Nat.reduceLeDiff, hlt, hb, hc]; first | done | rfl) ?_
    | refine g_gF (by intro hb hc; simp only [go_sem, Nat.reduceEqDiff, Nat.reduceAdd, Nat.reduceLeDiff, hlt, hb, hc]; first | done | rfl) ?_
    | refine g_skT ?_
    | refine g_skF ?_
    | refine g_goT (by simp only [go_sem, Nat.reduceEqDiff, Nat.reduceAdd, Nat.reduceLeDiff, hlt]; first | done | rfl) ?_
    | refine g_goF (by simp only [go_sem, Nat.reduceEqDiff, Nat.reduceAdd, Nat.reduceLeDiff, hlt]; first | done | rfl) ?_
    )
  refine w_block (w_range (min l.length 10) (by omega) (fun i fr σ => fr 10 = .sl ((labs l).take (min l.length 10)) ∧ Got σ 33 2 (fr 3) ((labs (fewL l)).take i)) (by decide) ?_ ?_ ?_ _ _ ?_ ?_ ?_)
  · rintro i fr σ v ⟨h0, h1⟩
    refine ⟨⟨?_, ?_⟩, ⟨?_, ?_⟩, ⟨?_, ?_⟩⟩ <;> simp only [go_sem, Nat.reduceEqDiff, Nat.reduceAdd, Nat.reduceLeDiff, h0, h1]
  · rintro i fr σ hi ⟨h10, hg⟩ hti htn
    have hil : i < l.length := by omega
    have hx : ((labs l).take (min l.length 10))[i]? = some (.agg [.sc (.string l[i].1), .sc (.string l[i].2)]) := by
      rw [List.getElem?_take, if_pos hi]
      exact labs_at (List.getElem?_eq_getElem hil)
    have e1 : (0 : Int) ≤ (i : Int) ∧ (i : Int) < ((min l.length 10 : Nat) : Int) := by omega
    refine w_block ?_
    have b70 : ∀ (n : Nat) (k : IntKind), bound n (.sc (.int k (min (n : Int) 70))) = some (min n 70) := fun n k => bound_min rfl
    (repeat' first
    | refine w_seq ?_
    | refine w_rg ?_
    | refine wo_nil ?_
    | refine s_plain (by simp only [go_sem, Nat.reduceEqDiff, Nat.reduceAdd, Nat.reduceLeDiff, h10, hti, e1, hlt, Int.toNat_natCast, hx, mn2, List.modify_zero_cons, b70, fillP, fillE, splice, List.replicate_succ, List.replicate_zero, List.set_cons_zero]; first | done | rfl) ?_
    | refine s_void (by simp only [go_sem, Nat.reduceEqDiff, Nat.reduceAdd, Nat.reduceLeDiff, h10, hti, e1, hlt, Int.toNat_natCast, hx, mn2, List.modify_zero_cons, b70, fillP, fillE, splice, List.replicate_succ, List.replicate_zero, List.set_cons_zero]; first | done | rfl) ?_
    | refine s_guard (by simp only [go_sem, Nat.reduceEqDiff, Nat.reduceAdd, Nat.reduceLeDiff, h10, hti, e1, hlt, Int.toNat_natCast, hx, mn2, List.modify_zero_cons, b70, fillP, fillE, splice, List.replicate_succ, List.replicate_zero, List.set_cons_zero]; first | done | rfl) ?_
    | refine g_skU ?_
    | refine g_T (by intro hb; simp only [go_sem, Nat.reduceEqDiff, Nat.reduceAdd, Nat.reduceLeDiff, h10, hti, e1, hlt, Int.toNat_natCast, hx, mn2, List.modify_zero_cons, b70, fillP, fillE, splice, List.replicate_succ, List.replicate_zero, List.set_cons_zero, hb]; first | done | rfl) ?_
    | refine g_F (by intro hb; simp only [go_sem, Nat.reduceEqDiff, Nat.reduceAdd, Nat.reduceLeDiff, h10, hti, e1, hlt, Int.toNat_natCast, hx, mn2, List.modify_zero_cons, b70, fillP, fillE, splice, List.replicate_succ, List.replicate_zero, List.set_cons_zero, hb]; first | done | rfl) ?_
    | refine g_gT (by intro hb hc; simp only [go_sem, Nat.reduceEqDiff, Nat.reduceAdd, Nat.reduceLeDiff, h10, hti, e1, hlt, Int.toNat_natCast, hx, mn2, List.modify_zero_cons, b70, fillP, fillE, splice, List.replicate_succ, List.replicate_zero, List.set_cons_zero, hb, hc]; first | done | rfl) ?_
    | refine g_gF (by intro hb hc; simp only [go_sem, Nat.reduceEqDiff, Nat.reduceAdd, Nat.reduceLeDiff, h10, hti, e1, hlt, Int.toNat_natCast, hx, mn2, List.modify_zero_cons, b70, fillP, fillE, splice, List.replicate_succ, List.replicate_zero, List.set_cons_zero, hb, hc]; first | done | rfl) ?_
    | refine g_skT ?_
    | refine g_skF ?_
    | refine g_goT (by simp only [go_sem, Nat.reduceEqDiff, Nat.reduceAdd, Nat.reduceLeDiff, h10, hti, e1, hlt, Int.toNat_natCast, hx, mn2, List.modify_zero_cons, b70, fillP, fillE, splice, List.replicate_succ, List.replicate_zero, List.set_cons_zero]; first | done | rfl) ?_
    | refine g_goF (by simp only [go_sem, Nat.reduceEqDiff, Nat.reduceAdd, Nat.reduceLeDiff, h10, hti, e1, hlt, Int.toNat_natCast, hx, mn2, List.modify_zero_cons, b70, fillP, fillE, splice, List.replicate_succ, List.replicate_zero, List.set_cons_zero]; first | done | rfl) ?_
    )
    have hL : (labs (fewL l)).take (i + 1) = (labs (fewL l)).take i ++ [.agg [.sc (.string (cutS 70 l[i].1)), .sc (.string (cutS 70 l[i].2))]] := by
      have hlen : i < (labs (fewL l)).length := by rw [labs_len, fewL_len]; exact hi
      rw [List.take_succ_eq_append_getElem hlen]
      congr 1
      simp [labs, fewL, lab, cutL]
    have hlen : ((labs (fewL l)).take i).length ≤ 10 := by rw [List.length_take]; omega
    refine s_app (xs := (labs (fewL l)).take i) (e := .agg [.sc (.string (cutS 70 l[i].1)), .sc (.string (cutS 70 l[i].2))]) (by simp only [go_sem, Nat.reduceEqDiff, Nat.reduceAdd, Nat.reduceLeDiff]; exact ((hg.new (d := 5) (by decide) _).put (d := 5) (by decide) _).new (d := 32) (by decide) _) (by simp only [go_sem, Nat.reduceEqDiff, Nat.reduceAdd, Nat.reduceLeDiff, srcOf, elemsOf]; rfl) rfl rfl (by omega) ?_
    intro p σ' hg2
    rw [← hL] at hg2
    (repeat' first
    | refine w_seq ?_
    | refine w_rg ?_
    | refine wo_nil ?_
    | refine s_plain (by simp only [go_sem, Nat.reduceEqDiff, Nat.reduceAdd, Nat.reduceLeDiff]; first | done | rfl) ?_
    | refine s_void (by simp only [go_sem, Nat.reduceEqDiff, Nat.reduceAdd, Nat.reduceLeDiff]; first | done | rfl) ?_
    | refine s_guard (by simp only [go_sem, Nat.reduceEqDiff, Nat.reduceAdd, Nat.reduceLeDiff]; first | done | rfl) ?_
    | refine g_skU ?_
    | refine g_T (by intro hb; simp only [go_sem, Nat.reduceEqDiff, Nat.reduceAdd, Nat.reduceLeDiff, hb]; first | done | rfl) ?_
    | refine g_F (by intro hb; simp only [go_sem, Nat.reduceEqDiff, Nat.reduceAdd, Nat.reduceLeDiff, hb]; first | done | rfl) ?_
    | refine g_gT (by intro hb hc; simp only [go_sem, Nat.reduceEqDiff, Nat.reduceAdd, Nat.reduceLeDiff, hb, hc]; first | done | rfl) ?_
    | refine g_gF (by intro hb hc; simp only [go_sem, Nat.reduceEqDiff, Nat.reduceAdd, Nat.reduceLeDiff, hb, hc]; first | done | rfl) ?_
    | refine g_skT ?_
    | refine g_skF ?_
    | refine g_goT (by simp only [go_sem, Nat.reduceEqDiff, Nat.reduceAdd, Nat.reduceLeDiff]; first | done | rfl) ?_
    | refine g_goF (by simp only [go_sem, Nat.reduceEqDiff, Nat.reduceAdd, Nat.reduceLeDiff]; first | done | rfl) ?_
    )
    refine ⟨⟨?_, ?_⟩, ?_, ?_⟩
    · simp only [go_sem, Nat.reduceEqDiff, Nat.reduceAdd, Nat.reduceLeDiff, h10]
    · simp only [go_sem, Nat.reduceEqDiff, Nat.reduceAdd, Nat.reduceLeDiff]; exact hg2
    · simp only [go_sem, Nat.reduceEqDiff, Nat.reduceAdd, Nat.reduceLeDiff, hti]
    · simp only [go_sem, Nat.reduceEqDiff, Nat.reduceAdd, Nat.reduceLeDiff, htn]
  · rintro fr σ ⟨h10, hg⟩
    simp only [if_true]
    have hfull : (labs (fewL l)).take (min l.length 10) = labs (fewL l) := by rw [List.take_of_length_le]; rw [labs_len, fewL_len]; exact Nat.le_refl _
    rw [hfull] at hg
    have hfz : fz σ 12 (fr 3) = some (.sl (labs (fewL l))) := by
      have hm : ∀ (L : List Lab), (labs L).mapM (fz σ 11) = some (labs L) := by
        intro L
        induction L with
        | nil => rfl
        | cons m L ih =>
          show List.mapM (fz σ 11) (lab m :: labs L) = _
          rw [mapM_cons', ih]
          rfl
      rcases hg with ⟨h3, h4⟩ | ⟨g, wr, h3, h4, _, _⟩
      · rw [h3, h4]; rfl
      · rw [h3, fz_ob, h4]
        simp [hm]
    (repeat' first
    | refine w_seq ?_
    | refine w_rg ?_
    | refine wo_nil ?_
    | refine s_plain (by simp only [go_sem, Nat.reduceEqDiff, Nat.reduceAdd, Nat.reduceLeDiff]; first | done | rfl) ?_
    | refine s_void (by simp only [go_sem, Nat.reduceEqDiff, Nat.reduceAdd, Nat.reduceLeDiff]; first | done | rfl) ?_
    | refine s_guard (by simp only [go_sem, Nat.reduceEqDiff, Nat.reduceAdd, Nat.reduceLeDiff]; first | done | rfl) ?_
    | refine g_skU ?_
    | refine g_T (by intro hb; simp only [go_sem, Nat.reduceEqDiff, Nat.reduceAdd, Nat.reduceLeDiff, hb]; first | done | rfl) ?_
    | refine g_F (by intro hb; simp only [go_sem, Nat.reduceEqDiff, Nat.reduceAdd, Nat.reduceLeDiff, hb]; first | done | rfl) ?_
    | refine g_gT (by intro hb hc; simp only [go_sem, Nat.reduceEqDiff, Nat.reduceAdd, Nat.reduceLeDiff, hb, hc]; first | done | rfl) ?_
    | refine g_gF (by intro hb hc; simp only [go_sem, Nat.reduceEqDiff, Nat.reduceAdd, Nat.reduceLeDiff, hb, hc]; first | done | rfl) ?_
    | refine g_skT ?_
    | refine g_skF ?_
    | refine g_goT (by simp only [go_sem, Nat.reduceEqDiff, Nat.reduceAdd, Nat.reduceLeDiff]; first | done | rfl) ?_
    | refine g_goF (by simp only [go_sem, Nat.reduceEqDiff, Nat.reduceAdd, Nat.reduceLeDiff]; first | done | rfl) ?_
    | refine w_condT (by simp only [go_sem, Nat.reduceEqDiff, Nat.reduceAdd, Nat.reduceLeDiff]; first | done | rfl) ?_
    | refine w_condF (by simp only [go_sem, Nat.reduceEqDiff, Nat.reduceAdd, Nat.reduceLeDiff]; first | done | rfl) ?_
    | refine w_skip ?_
    | refine w_exit ?_
    | refine w_ret ?_
    )
    exact ⟨.inr rfl, by simp only [go_sem, Nat.reduceEqDiff, Nat.reduceAdd, Nat.reduceLeDiff, retOf, resOf, hfz]⟩
  · exact ⟨by simp only [go_sem, Nat.reduceEqDiff, Nat.reduceAdd, Nat.reduceLeDiff], by simp only [go_sem, Nat.reduceEqDiff, Nat.reduceAdd, Nat.reduceLeDiff]; exact .inl ⟨rfl, rfl⟩⟩
  · simp only [go_sem, Nat.reduceEqDiff, Nat.reduceAdd, Nat.reduceLeDiff]
  · simp only [go_sem, Nat.reduceEqDiff, Nat.reduceAdd, Nat.reduceLeDiff]

theorem a108 (J : Has li env) {l : List Lab} (hn : l.length ≤ 9223372036854775807) : AV env 108 [.sl (labs l)] = some (.sl (labs (fewL l))) := few_g (J (108, d108) (by simp [li])) hn

end
end Go.Proofs.YtjijlmfhnkipmaaDoorPv
