/-
A library's function that is told by hand: slices.Clone (it asks whether a slice is nil).
-/
import Derived.Test.YtckcgppnppiccaaDoorPvW
import Derived.Test.YtckcgppnppiccaaDoorPvY
import Derived.Laws.Cover3
import Derived.Lib.SliceRun
namespace Go.Proofs.YtckcgppnppiccaaDoorPv
open Go Go.RowKit
set_option linter.unusedSimpArgs false
set_option linter.unusedVariables false
set_option maxHeartbeats 4000000
attribute [local go_sem ↓] e_mv e_pick e_bin e_eqs e_beq e_un e_cvi e_str e_s2b e_b2s e_box e_build e_bsl e_ld e_st e_nck e_mkf e_slcS e_slcL e_fa e_fld e_ia e_iaa e_ix e_ixa e_ext e_lenS e_lenL e_mnmx e_app e_msl e_call e_callv pa_t pa_c pa_f slcSP_str hiOf_some hiOf_none loOf_some loOf_none set_eq set_ne
attribute [local go_sem] pv pv1 simple frOf_0 frOf_1 frOf_2 ne_eq not_false_eq_true if_true Bool.false_eq_true if_false pbin punary Option.map_some Option.bind_some pick_and pick_or opt_true Bool.true_and Bool.and_self Bool.and_true Bool.true_or Bool.false_or Bool.not_true Bool.not_false callE pcall_eq List.map_cons List.map_nil List.append_nil List.nil_append List.cons_append mapM_cons' mapM_nil' dep_eq fz_sc fz_sl fz_em fz_fn fz_fp fz_agg fz_bx fz_ob Nat.lt_irrefl Nat.zero_lt_one Nat.lt_add_one flat clL cl Bool.or_true okc cells_agg cells_sc cells_sl cells_em cells_ob cells_fn cells_bx cells_fp List.length_cons List.length_nil Nat.zero_add and_self true_and and_true new_m new_c put_m put_c nil_m nil_c deref List.getElem?_cons_zero List.getElem?_cons_succ List.drop_zero List.drop_succ_cons List.take_succ_cons List.take_zero Nat.le_refl
set_option maxRecDepth 8000

theorem cl_fz (σ τ : St) : ∀ (d : Nat) (p : PV), cl p = true → fz σ d p = fz τ d p := by
  intro d
  induction d with
  | zero => intro p _; rfl
  | succ d ih =>
    have hl : ∀ l : List PV, clL l = true → l.mapM (fz σ d) = l.mapM (fz τ d) := by
      intro l
      induction l with
      | nil => intro _; rfl
      | cons x r ihl =>
        intro h
        simp only [clL, Bool.and_eq_true] at h
        simp only [List.mapM_cons, ih x h.1, ihl h.2]
    intro p h
    cases p with
    | ob => simp [cl] at h
    | bx => simp [cl] at h
    | fn f a b =>
      simp only [cl, Bool.and_eq_true] at h
      simp only [fz, hl a h.1, hl b h.2]
    | agg cs => simp only [fz, hl cs (by simpa [cl] using h)]
    | tu cs => simp only [fz, hl cs (by simpa [cl] using h)]
    | ifc t v => simp only [fz, ih v (by simpa [cl] using h)]
    | jk => rfl
    | sc v => rfl
    | em => rfl
    | sl v => rfl
    | fp v => rfl

theorem clL_fz (σ τ : St) (d : Nat) (l : List PV) (h : clL l = true) : l.mapM (fz σ d) = l.mapM (fz τ d) := by
  induction l with
  | nil => rfl
  | cons x r ih =>
    simp only [clL, Bool.and_eq_true] at h
    simp only [List.mapM_cons, cl_fz σ τ d x h.1, ih h.2]

def cloneF (es by_ : Nat) : List PV → St → Option (PV × St)
  | [.sl xs], σ => if xs.all (fun y => okc y && (cellsOf y).length == es) && clL xs && decide (xs.length * by_ ≤ 70368744177664) then (xs.mapM (fz St.nil 11)).map fun l => (.sl l, σ) else none
  | _, _ => none

/-- Parts of code. -/
def cFst : Code → Code | .seq a _ => a | c => c
def cSnd : Code → Code | .seq _ b => b | c => c
def cThen : Code → Code | .cond _ a _ => a | c => c
def cOp : Code → Nat → Oper | .region _ ops _, i => (ops[i]?).getD { op := .move (.tmp 0), dst := none, type := 0, pos := "", after := #[], guard := none } | _, _ => { op := .move (.tmp 0), dst := none, type := 0, pos := "", after := #[], guard := none }

section
variable {km : Nat → FuncId} {P : Program} {A : Ann} {cx : Cx} {K : Nat → Nat → Option Nat} {σ : St} {w : World}

/-- From a call of values as they stand to a call anywhere. -/
theorem pure_call {f : Nat} {as : List PV} {vs : List Value} {r' : PV} (hi : Inv km cx K σ w)
    (hc : Calls P (km f) vs.toArray w fun e w1 => ∃ v K1 r0 σ1, e = .returned v ∧ RepS km ⟨w, Stab cx K σ w⟩ K1 σ1 w1 v r0 ∧ Inv km ⟨w, Stab cx K σ w⟩ K1 σ1 w1 ∧ fz σ1 dep r0 = some r') :
    Calls P (km f) vs.toArray w (CallDone km cx K σ w r' σ) := by
  refine hc.mono ?_
  rintro e w1 ⟨v, K1, r0, σ1, rfl, h1, h2, hfz⟩
  have hb : Below w.heap.size w w1 := h2.bel
  obtain ⟨g1, g2⟩ := inv_grow hi hb
  refine ⟨v, K, rfl, ?_, g1, g2⟩
  refine (fz_rep h2 (S := Stab cx K σ w1) (fun a ha => ?_) K dep r0 r' v hfz h1 (.inr fun o g x b k _ hk _ => ?_)).2
  · rcases ha with ⟨_, h⟩ | ⟨h4, h5, _⟩
    · exact stab_grow hb h
    · exact stab_new hi h4 h5
  · exact stab_new hi (h2.kb _ _ _ hk).1 (h2.kb _ _ _ hk).2

theorem clone_prim {k es by_ : Nat} {fn : Func} {t : TypeId} {c : Code} {c2 c3 : PC} {e : TypeId} (hm : P.follows .mixedOrders = true) (hf : P.funcs[km k]? = some fn) (hb : fn.body = some c)
    (hn : fn.name ≠ "runtime.NumGoroutine") (hnt : fn.ntmps = 8) (hres : fn.results.toList.mapM (compR P) = some [.tmp 2]) (ht : P.underlying t = some (.slice e)) (hA : LinkOk km A)
    (hc : ∃ o0 o1 o2 d2 d3, c = .seq (.region 0 #[o0] false) (.seq (.seq (.region 1 #[o1, o2] false) (.cond (.tmp 4) d2 .skip)) d3) ∧
      (o0.dst = some 2 ∧ o0.op = .assign (.const (.slice none 0 0)) ∧ o0.guard = none) ∧ (o1.dst = some 3 ∧ o1.op = .move (.tmp 0) ∧ o1.guard = none) ∧
      (∃ t', o2.dst = some 4 ∧ o2.op = .binOp .eql t (.tmp 3) (.const (.slice none 0 0)) t' ∧ o2.guard = none) ∧ compC P A 8 d2 = some c2 ∧ compC P A 8 d3 = some c3)
    (h2 : c2 = .seq (.rg false [⟨some 2, none, .mv (.c (.slice none 0 0))⟩]) .ret)
    (h3 : ∃ z, c3 = .seq (.rg false [⟨some 5, none, .bsl es z 0 []⟩, ⟨some 6, none, .mv (.t 0)⟩, ⟨some 7, none, .app es by_ false (.t 5) (.t 6)⟩, ⟨some 2, none, .mv (.t 7)⟩]) .ret) :
    PrimOk km P k (cloneF es by_) := by
  intro args σ r σ' hF
  refine ⟨⟨fn, hf, by rw [hb]; rfl, hn⟩, fun cx K w vs hi hlen hr => ?_⟩
  -- what is handed over
  obtain ⟨xs, rfl, hall, hcl, hby, l, hl, rfl, rfl⟩ : ∃ xs, args = [.sl xs] ∧ xs.all (fun y => okc y && (cellsOf y).length == es) = true ∧ clL xs = true ∧ xs.length * by_ ≤ 70368744177664 ∧ ∃ l, xs.mapM (fz St.nil 11) = some l ∧ r = .sl l ∧ σ' = σ := by
    unfold cloneF at hF
    split at hF
    · rename_i xs
      split at hF
      · rename_i hq
        simp only [Bool.and_eq_true, decide_eq_true_eq] at hq
        obtain ⟨l, hl, he⟩ := Option.map_eq_some_iff.1 hF
        simp only [Prod.mk.injEq] at he
        exact ⟨xs, rfl, hq.1.1, hq.1.2, hq.2, l, hl, he.1.symm, he.2.symm⟩
      · cases hF
    · cases hF
  obtain ⟨v, rfl⟩ : ∃ v, vs = [v] := List.length_eq_one_iff.1 (by simpa using hlen)
  have rv := hr 0 v _ rfl rfl
  refine pure_call (f := k) (as := [.sl xs]) hi ?_
  -- a world of its own
  have rv0 : Rep km w.cell? (Stab ⟨w, Stab cx K σ' w⟩ (fun _ _ => none) St.nil w) (fun _ _ => none) v (.sl xs) :=
    (rv.closed (K' := fun _ _ => none) (by simp [cl])).ext (fun _ _ _ h => h) (fun a ha _ => .inl ⟨stab_lt hi ha, ha⟩) (fun _ h => h) (fun _ _ _ h => h)
  have hi0 := inv_nil (km := km) w (Stab cx K σ' w)
  obtain ⟨a0, n, cap, hv, hn0⟩ : ∃ (a0 : Option Addr) (n cap : Nat), v = .slice a0 n cap ∧ (a0 = none → xs = []) := by
    cases rv with
    | sl a n cap b off es xs us h1 h2 h3 _ _ _ _ =>
      refine ⟨a, n, cap, rfl, fun ha => ?_⟩
      subst ha
      rcases h3 with h3 | h3
      · exact List.eq_nil_of_length_eq_zero (by omega)
      · cases h3
  obtain ⟨o0, o1, o2, d2, d3, rfl, ⟨a1, a2, a3⟩, ⟨b1, b2, b3⟩, ⟨t', e1, e2, e3⟩, hd2, hd3⟩ := hc
  have hfr0 : FrR km ⟨w, Stab cx K σ' w⟩ (fun _ _ => none) St.nil w ((#[v] : Array Value) ++ Array.replicate 7 undef) (frOf [.sl xs]) := by
    intro t
    match t with
    | 0 => exact rv0
    | 1 | 2 | 3 | 4 | 5 | 6 | 7 => exact .jk _
    | t + 8 => exact .jk _
  have hem : RepS km ⟨w, Stab cx K σ' w⟩ (fun _ _ => none) St.nil w (.slice none 0 0) .em := .em none
  have hbo : RepS km ⟨w, Stab cx K σ' w⟩ (fun _ _ => none) St.nil w (.bool a0.isNone) (.sc (.bool a0.isNone)) := .sc _ rfl
  have hok0 : Ok km ⟨w, Stab cx K σ' w⟩ 8 (fun _ _ => none) (frOf [.sl xs]) St.nil { tmps := (#[v] : Array Value) ++ Array.replicate 7 undef, defers := [] } w := ⟨hfr0, hi0, by simp, rfl⟩
  have hok1 := hok0.put (d := some 2) Ext.refl hi0 hem (fun t h => by cases h; omega)
  have hok2 := hok1.put (d := some 3) Ext.refl hi0 rv0 (fun t h => by cases h; omega)
  have hok3 := hok2.put (d := some 4) Ext.refl hi0 hbo (fun t h => by cases h; omega)
  refine calls_of_wp hf hb ?_
  rw [hnt]
  refine wp_seq (wp_region ?_)
  have r0 : List.range (#[o0] : Array Oper).size = [0] := rfl
  have r1 : List.range (#[o1, o2] : Array Oper).size = [0, 1] := rfl
  rw [r0, wpOps_cons]
  unfold wpOp
  have g0 : (#[o0] : Array Oper)[0]? = some o0 := rfl
  simp only [g0, Region.wanted, a3, if_true]
  refine .inl ?_
  unfold Oper.wp
  rw [show (execOp (Act.eval { tmps := [v].toArray ++ Array.replicate (8 - [v].toArray.size) undef, defers := [] }) o0).run P w = .ok (.value (.slice none 0 0)) w by simp [execOp, a2, Act.eval], Oper.upon_value, a1]
  show Code.wp P _ _ _ _
  refine wp_seq (wp_seq (wp_region ?_))
  rw [r1, wpOps_cons]
  unfold wpOp
  have g1 : (#[o1, o2] : Array Oper)[0]? = some o1 := rfl
  have g2 : (#[o1, o2] : Array Oper)[1]? = some o2 := rfl
  simp only [g1, Region.wanted, b3, if_true]
  refine .inl ?_
  unfold Oper.wp
  have hmv : ∀ a : Act, (execOp a.eval o1).run P w = .ok (.value (a.tmps.getD 0 undef)) w := fun a => by simp [execOp, b2, Act.eval]
  rw [hmv, Oper.upon_value, b1, wpOps_cons]
  unfold wpOp
  simp only [g2, Region.wanted, e3, if_true]
  refine .inl ?_
  unfold Oper.wp
  have heq : ∀ a : Act, a.tmps.getD 3 undef = v → (execOp a.eval o2).run P w = .ok (.value (.bool a0.isNone)) w := fun a ha => by
    have hr := Go.Lib.run_eql_slice_nil w t e a0 n cap 0 0 ht
    simp only [execOp, e2, Act.eval, ha, hv]
    have hg : (eqGuard .eql t (.tmp 3) (.const (.slice none 0 0)) (.slice a0 n cap) (.slice none 0 0)).run P w = .ok () w := by simp [eqGuard]
    simp only [Sem.run_bind, hg, Result.andThen_ok, hr]
    rfl
  rw [heq _ (by simp [Act.put]), Oper.upon_value, e1]
  show Code.wp P _ _ _ _
  have hcond := hok3.fr 4
  have hE : SoundE km P (fun _ _ _ => none) := fun _ _ _ _ _ h => by cases h
  have fin : ∀ {x : X} {fr' : Fr} {σ1 : St} {r0 : PV} {a' : Act} {w' : World} {K' : Nat → Nat → Option Nat}, x = .ret → Ok km ⟨w, Stab cx K σ' w⟩ 8 K' fr' σ1 a' w' → fr' 2 = r0 → fz σ1 dep r0 = some (.sl l) →
      bodyPost P fn (fun e w1 => ∃ v K1 r0 σ1, e = .returned v ∧ RepS km ⟨w, Stab cx K σ' w⟩ K1 σ1 w1 v r0 ∧ Inv km ⟨w, Stab cx K σ' w⟩ K1 σ1 w1 ∧ fz σ1 dep r0 = some (.sl l)) (exitOf x) a' w' := by
    intro x fr' σ1 r0 a' w' K' hx h hfr hfz
    subst hx
    obtain ⟨v', hv', rv'⟩ := results_rep (P := P) h.inv h.fr (r := r0) hres (by simp [retOf, resOf, hfr])
    exact ⟨h.dfs, v', hv', v', K', r0, σ1, rfl, rv', h.inv, hfz⟩
  cases a0 with
  | none =>
    have hx := hn0 rfl
    subst hx
    simp only [List.mapM_nil, Option.pure_def, Option.some.injEq] at hl
    subst hl
    refine wp_cond_true (hcond.inv_bool) ?_
    subst h2
    refine code_sound (cx := ⟨w, Stab cx K σ' w⟩) hE hA hm 0 d2 _ _ _ _ .ret _ _ _ w _ hd2 (by simp only [evC, evOs, ev1, stp, evO, Option.map_some, Option.bind_some]; rfl) hok3 fun a' w' K' q1 _ => ?_
    exact fin rfl q1 rfl rfl
  | some ad =>
    refine wp_cond_false (hcond.inv_bool) (wp_skip ?_)
    obtain ⟨z, rfl⟩ := h3
    have hw : Wp (fun _ => none) (.seq (.rg false [⟨some 5, none, .bsl es z 0 []⟩, ⟨some 6, none, .mv (.t 0)⟩, ⟨some 7, none, .app es by_ false (.t 5) (.t 6)⟩, ⟨some 2, none, .mv (.t 7)⟩]) .ret)
        (fun x fr τ => x = .ret ∧ fz τ dep (fr 2) = some (.sl l)) ((((frOf [.sl xs]).put (some 2) .em).put (some 3) (.sl xs)).put (some 4) (.sc (.bool (some ad).isNone))) St.nil := by
      simp only [put_some]
      have hm11 : ∀ τ, xs.mapM (fz τ 11) = some l := by
        intro τ
        rw [← hl]
        exact clL_fz τ St.nil 11 xs hcl
      (repeat' first
    | refine w_seq ?_
    | refine w_rg ?_
    | refine wo_nil ?_
    | refine s_plain (by simp only [go_sem, Nat.reduceEqDiff, Nat.reduceAdd, Nat.reduceLeDiff, fillE, List.replicate_zero, srcOf, elemsOf, hall, hby, Nat.zero_add, List.nil_append]; first | done | rfl) ?_
    | refine s_void (by simp only [go_sem, Nat.reduceEqDiff, Nat.reduceAdd, Nat.reduceLeDiff, fillE, List.replicate_zero, srcOf, elemsOf, hall, hby, Nat.zero_add, List.nil_append]; first | done | rfl) ?_
    | refine s_guard (by simp only [go_sem, Nat.reduceEqDiff, Nat.reduceAdd, Nat.reduceLeDiff, fillE, List.replicate_zero, srcOf, elemsOf, hall, hby, Nat.zero_add, List.nil_append]; first | done | rfl) ?_
    | refine g_skU ?_
    | refine g_T (by intro hb; simp only [go_sem, Nat.reduceEqDiff, Nat.reduceAdd, Nat.reduceLeDiff, fillE, List.replicate_zero, srcOf, elemsOf, hall, hby, Nat.zero_add, List.nil_append, hb]; first | done | rfl) ?_
    | refine g_F (by intro hb; simp only [go_sem, Nat.reduceEqDiff, Nat.reduceAdd, Nat.reduceLeDiff, fillE, List.replicate_zero, srcOf, elemsOf, hall, hby, Nat.zero_add, List.nil_append, hb]; first | done | rfl) ?_
    | refine g_gT (by intro hb hc; simp only [go_sem, Nat.reduceEqDiff, Nat.reduceAdd, Nat.reduceLeDiff, fillE, List.replicate_zero, srcOf, elemsOf, hall, hby, Nat.zero_add, List.nil_append, hb, hc]; first | done | rfl) ?_
    | refine g_gF (by intro hb hc; simp only [go_sem, Nat.reduceEqDiff, Nat.reduceAdd, Nat.reduceLeDiff, fillE, List.replicate_zero, srcOf, elemsOf, hall, hby, Nat.zero_add, List.nil_append, hb, hc]; first | done | rfl) ?_
    | refine g_skT ?_
    | refine g_skF ?_
    | refine g_goT (by simp only [go_sem, Nat.reduceEqDiff, Nat.reduceAdd, Nat.reduceLeDiff, fillE, List.replicate_zero, srcOf, elemsOf, hall, hby, Nat.zero_add, List.nil_append]; first | done | rfl) ?_
    | refine g_goF (by simp only [go_sem, Nat.reduceEqDiff, Nat.reduceAdd, Nat.reduceLeDiff, fillE, List.replicate_zero, srcOf, elemsOf, hall, hby, Nat.zero_add, List.nil_append]; first | done | rfl) ?_
    | refine w_condT (by simp only [go_sem, Nat.reduceEqDiff, Nat.reduceAdd, Nat.reduceLeDiff, fillE, List.replicate_zero, srcOf, elemsOf, hall, hby, Nat.zero_add, List.nil_append]; first | done | rfl) ?_
    | refine w_condF (by simp only [go_sem, Nat.reduceEqDiff, Nat.reduceAdd, Nat.reduceLeDiff, fillE, List.replicate_zero, srcOf, elemsOf, hall, hby, Nat.zero_add, List.nil_append]; first | done | rfl) ?_
    | refine w_skip ?_
    | refine w_exit ?_
    | refine w_ret ?_
    )
      have hall2 : (xs.all fun y => okc y && (cellsOf y).length == es) = true := hall
      simp only [okc] at hall2
      refine s_plain (v := .ob 7 0 es 0 (0 + xs.length)) (σ' := ((St.nil.new 5 ⟨es, [], true, true⟩).put 5 0 (some ⟨es, [], false, false⟩)).new 7 ⟨es, [] ++ xs, true, false⟩) (by
        simp only [↓e_app, ↓pa_t, go_sem, srcOf, Nat.reduceEqDiff, elemsOf]
        rw [if_pos hall2]
        simp only [go_sem, List.length_nil, hby]) ?_
      (repeat' first
    | refine w_seq ?_
    | refine w_rg ?_
    | refine wo_nil ?_
    | refine s_plain (by simp only [go_sem, Nat.reduceEqDiff, Nat.reduceAdd, Nat.reduceLeDiff]; first | done | rfl) ?_
    | refine s_void (by simp only [go_sem, Nat.reduceEqDiff, Nat.reduceAdd, Nat.reduceLeDiff]; first | done | rfl) ?_
    | refine s_guard (by simp only [go_sem, Nat.reduceEqDiff, Nat.reduceAdd, Nat.reduceLeDiff]; first | done | rfl) ?_
    | refine g_skU ?_
    | refine g_T (by intro hb; simp only [go_sem, Nat.reduceEqDiff, Nat.reduceAdd, Nat.reduceLeDiff, hb]; first | done | rfl) ?_
    | refine g_F (by intro hb; simp only [go_sem, Nat.reduceEqDiff, Nat.reduceAdd, Nat.reduceLeDiff, hb]; first | done | rfl) ?_
    | refine g_gT (by intro hb hc; simp only [go_sem, Nat.reduceEqDiff, Nat.reduceAdd, Nat.reduceLeDiff, hb, hc]; first | done | rfl) ?_
    | refine g_gF (by intro hb hc; simp only [go_sem, Nat.reduceEqDiff, Nat.reduceAdd, Nat.reduceLeDiff, hb, hc]; first | done | rfl) ?_
    | refine g_skT ?_
    | refine g_skF ?_
    | refine g_goT (by simp only [go_sem, Nat.reduceEqDiff, Nat.reduceAdd, Nat.reduceLeDiff]; first | done | rfl) ?_
    | refine g_goF (by simp only [go_sem, Nat.reduceEqDiff, Nat.reduceAdd, Nat.reduceLeDiff]; first | done | rfl) ?_
    | refine w_condT (by simp only [go_sem, Nat.reduceEqDiff, Nat.reduceAdd, Nat.reduceLeDiff]; first | done | rfl) ?_
    | refine w_condF (by simp only [go_sem, Nat.reduceEqDiff, Nat.reduceAdd, Nat.reduceLeDiff]; first | done | rfl) ?_
    | refine w_skip ?_
    | refine w_exit ?_
    | refine w_ret ?_
    )
      exact ⟨rfl, by simp only [go_sem, Nat.reduceEqDiff, Nat.reduceAdd, Nat.reduceLeDiff, List.drop_zero, List.take_of_length_le, Nat.le_refl, hm11, Nat.zero_add, List.nil_append]⟩
    obtain ⟨x, fr', σ1, h1, h2, h3⟩ := hw
    obtain ⟨q, hq⟩ := EC_some h1
    have hE2 : SoundE km P (evF (fun _ => none) q) := evF_sound hm (fun _ _ h => by cases h) q
    exact code_sound (cx := ⟨w, Stab cx K σ' w⟩) hE2 hA hm q d3 _ _ _ _ x fr' σ1 _ w _ hd3 hq hok3 fun a' w' K' q1 _ => fin h2 q1 rfl h3
end
end Go.Proofs.YtckcgppnppiccaaDoorPv
