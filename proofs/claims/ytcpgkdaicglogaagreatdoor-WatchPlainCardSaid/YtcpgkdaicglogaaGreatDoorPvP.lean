/-
A library's function that is told by hand: slices.Clone (it asks whether a slice is nil).
-/
import Derived.Test.YtcpgkdaicglogaaGreatDoorPvW
import Derived.Test.YtcpgkdaicglogaaGreatDoorPvY
import Derived.Laws.Cover3
import Derived.Lib.SliceRun
import Derived.Lib.Bytealg
import Derived.Lib.Join
import Derived.Lib.ReplaceLaws
namespace Go.Proofs.YtcpgkdaicglogaaGreatDoorPv
open Go Go.RowKit
set_option linter.unusedSimpArgs false
set_option linter.unusedVariables false
set_option maxHeartbeats 4000000
attribute [local go_sem ↓] e_mv e_pick e_bin e_eqs e_beq e_un e_cvi e_str e_s2b e_b2s e_box e_build e_bsl e_ld e_st e_nck e_mkf e_slcS e_slcL e_fa e_fld e_ia e_iaa e_ix e_ixa e_ext e_lenS e_lenL e_mnmx e_app e_appb e_bbx e_msl e_clr e_call e_callv e_icall e_slcA e_mkm e_mput e_mget e_mlen e_mdel pa_t pa_c pa_f slcSP_str hiOf_some hiOf_none loOf_some loOf_none set_eq set_ne
attribute [local go_sem] pv pv1 simple frOf_0 frOf_1 frOf_2 frOf_3 frOf_4 frOf_5 ne_eq not_false_eq_true if_true Bool.false_eq_true if_false pbin punary Option.map_some Option.bind_some pick_and pick_or opt_true Bool.true_and Bool.and_self Bool.and_true Bool.true_or Bool.false_or Bool.not_true Bool.not_false callE pcall_eq List.map_cons List.map_nil List.append_nil List.nil_append List.cons_append mapM_cons' mapM_nil' dep_eq fz_sc fz_sl fz_em fz_fn fz_fp fz_agg fz_tu fz_bx fz_ob Nat.lt_irrefl Nat.zero_lt_one Nat.lt_add_one flat clL cl Bool.or_true okc_sc okc_em okc_sl okc_ob okc_bx okc_fp okc_fn okc_agg okc_ifc cells_agg cells_sc cells_sl cells_em cells_ob cells_fn cells_bx cells_fp List.length_cons List.length_nil Nat.zero_add and_self true_and and_true new_m new_c put_m put_c nil_m nil_c nil_mm new_mm put_mm newM_m newM_c newM_mm putM_m putM_c putM_mm mkeyV_1 mkeyV_2 mapAt_eq deref List.getElem?_cons_zero List.getElem?_cons_succ List.drop_zero List.drop_succ_cons List.take_succ_cons List.take_zero Nat.le_refl false_and and_false decide_true decide_false lenP_em lenP_nil lenP_sl lenP_ob Int.ofNat_zero
set_option maxRecDepth 8000

def cloneF (es by_ : Nat) : List PV → St → Option (PV × St)
  | [.sl xs], σ => if xs.all (fun y => okc y && (cellsOf y).length == es) && decide (xs.length * by_ ≤ 70368744177664) then (if xs.isEmpty then some (.em, σ) else some (.ob 7 (σ.c 7) es 0 xs.length, σ.new 7 ⟨es, xs, true, true⟩)) else none
  | _, _ => none

/-- Parts of code. -/
def cFst : Code → Code | .seq a _ => a | c => c
def cSnd : Code → Code | .seq _ b => b | c => c
def cThen : Code → Code | .cond _ a _ => a | c => c
def cOp : Code → Nat → Oper | .region _ ops _, i => (ops[i]?).getD { op := .move (.tmp 0), dst := none, type := 0, pos := "", after := #[], guard := none } | _, _ => { op := .move (.tmp 0), dst := none, type := 0, pos := "", after := #[], guard := none }

section
variable {km : Km} {P : Program} {A : Ann} {cx : Cx km} {K : Nat → Nat → Option Nat} {σ : St} {w : World}

theorem clone_prim {k es by_ : Nat} {fn : Func} {t : TypeId} {c : Code} {c2 c3 : PC} {e : TypeId} (hm : P.follows .mixedOrders = true) (hf : P.funcs[km k]? = some fn) (hb : fn.body = some c)
    (hn : fn.name ≠ "runtime.NumGoroutine") (hnt : fn.ntmps = 8) (hres : fn.results.toList.mapM (compR P) = some [.tmp 2]) (ht : P.underlying t = some (.slice e)) (hA : LinkOk km A)
    (hc : ∃ o0 o1 o2 d2 d3, c = .seq (.region 0 #[o0] false) (.seq (.seq (.region 1 #[o1, o2] false) (.cond (.tmp 4) d2 .skip)) d3) ∧
      (o0.dst = some 2 ∧ o0.op = .assign (.const (.slice none 0 0)) ∧ o0.guard = none) ∧ (o1.dst = some 3 ∧ o1.op = .move (.tmp 0) ∧ o1.guard = none) ∧
      (∃ t', o2.dst = some 4 ∧ o2.op = .binOp .eql t (.tmp 3) (.const (.slice none 0 0)) t' ∧ o2.guard = none) ∧ compC P A 8 d2 = some c2 ∧ compC P A 8 d3 = some c3)
    (h2 : c2 = .seq (.rg false [⟨some 2, none, .mv (.c (.slice none 0 0))⟩]) .ret)
    (h3 : c3 = .seq (.rg false [⟨some 5, none, .mv (.c (.slice none 0 0))⟩, ⟨some 6, none, .mv (.t 0)⟩, ⟨some 7, none, .app es by_ false (.t 5) (.t 6)⟩, ⟨some 2, none, .mv (.t 7)⟩]) .ret) :
    PrimOk km P k (cloneF es by_) := by
  intro args σ r σ' hF
  refine ⟨⟨fn, hf, by rw [hb]; rfl, hn⟩, fun cx K w vs hi hlen hr => ?_⟩
  obtain ⟨xs, rfl, hall, hby, hF⟩ : ∃ xs, args = [.sl xs] ∧ xs.all (fun y => okc y && (cellsOf y).length == es) = true ∧ xs.length * by_ ≤ 70368744177664 ∧
      (if xs.isEmpty then some (.em, σ) else some (.ob 7 (σ.c 7) es 0 xs.length, σ.new 7 ⟨es, xs, true, true⟩)) = some (r, σ') := by
    unfold cloneF at hF
    split at hF
    · rename_i xs
      split at hF
      · rename_i hq
        simp only [Bool.and_eq_true, decide_eq_true_eq] at hq
        exact ⟨xs, rfl, hq.1, hq.2, hF⟩
      · cases hF
    · cases hF
  obtain ⟨v, rfl⟩ : ∃ v, vs = [v] := List.length_eq_one_iff.1 (by simpa using hlen)
  have rv := hr 0 v _ rfl rfl
  obtain ⟨a0, n, cap, hv, hn0⟩ : ∃ (a0 : Option Addr) (n cap : Nat), v = .slice a0 n cap ∧ (a0 = none → xs = []) := by
    cases rv with
    | sl a n cap b off es xs us h1 h2 h3 _ _ _ _ =>
      refine ⟨a, n, cap, rfl, fun ha => ?_⟩
      subst ha
      rcases h3 with h3 | h3
      · exact List.eq_nil_of_length_eq_zero (by omega)
      · cases h3
  obtain ⟨o0, o1, o2, d2, d3, rfl, ⟨a1, a2, a3⟩, ⟨b1, b2, b3⟩, ⟨t', e1, e2, e3⟩, hd2, hd3⟩ := hc
  have hfr0 : FrR km cx K σ w ((#[v] : Array Value) ++ Array.replicate 7 undef) (frOf [.sl xs]) := by
    intro t
    match t with
    | 0 => exact rv
    | 1 | 2 | 3 | 4 | 5 | 6 | 7 => exact .jk _
    | t + 8 => exact .jk _
  have hem : RepS km cx K σ w (.slice none 0 0) .em := .em none
  have hbo : RepS km cx K σ w (.bool a0.isNone) (.sc (.bool a0.isNone)) := .sc _ rfl
  have hok0 : Ok km cx 8 [] K (frOf [.sl xs]) σ { tmps := (#[v] : Array Value) ++ Array.replicate 7 undef, defers := [] } w := ⟨hfr0, hi, by simp, rfl⟩
  have hok1 := hok0.put (d := some 2) Ext.refl hi hem (fun t h => by cases h; omega)
  have hok2 := hok1.put (d := some 3) Ext.refl hi rv (fun t h => by cases h; omega)
  have hok3 := hok2.put (d := some 4) Ext.refl hi hbo (fun t h => by cases h; omega)
  refine calls_of_wp hf hb ?_
  rw [hnt]
  refine wp_seq (wp_region ?_)
  have r0 : List.range (#[o0] : Array Oper).size = [0] := rfl
  have r1 : List.range (#[o1, o2] : Array Oper).size = [0, 1] := rfl
  rw [r0, wpOps_cons]
  unfold wpOp
  have g0 : (#[o0] : Array Oper)[0]? = some o0 := rfl
  simp only [g0, Region.wanted, a3, if_true]
  refine .inl ?_
  unfold Oper.wp
  rw [show (execOp (Act.eval { tmps := [v].toArray ++ Array.replicate (8 - [v].toArray.size) undef, defers := [] }) o0).run P w = .ok (.value (.slice none 0 0)) w by simp [execOp, a2, Act.eval], Oper.upon_value, a1]
  show Code.wp P _ _ _ _
  refine wp_seq (wp_seq (wp_region ?_))
  rw [r1, wpOps_cons]
  unfold wpOp
  have g1 : (#[o1, o2] : Array Oper)[0]? = some o1 := rfl
  have g2 : (#[o1, o2] : Array Oper)[1]? = some o2 := rfl
  simp only [g1, Region.wanted, b3, if_true]
  refine .inl ?_
  unfold Oper.wp
  have hmv : ∀ a : Act, (execOp a.eval o1).run P w = .ok (.value (a.tmps.getD 0 undef)) w := fun a => by simp [execOp, b2, Act.eval]
  rw [hmv, Oper.upon_value, b1, wpOps_cons]
  unfold wpOp
  simp only [g2, Region.wanted, e3, if_true]
  refine .inl ?_
  unfold Oper.wp
  have heq : ∀ a : Act, a.tmps.getD 3 undef = v → (execOp a.eval o2).run P w = .ok (.value (.bool a0.isNone)) w := fun a ha => by
    have hr := Go.Lib.run_eql_slice_nil w t e a0 n cap 0 0 ht
    simp only [execOp, e2, Act.eval, ha, hv]
    have hg : (eqGuard .eql t (.tmp 3) (.const (.slice none 0 0)) (.slice a0 n cap) (.slice none 0 0)).run P w = .ok () w := by simp [eqGuard]
    simp only [Sem.run_bind, hg, Result.andThen_ok, hr]
    rfl
  rw [heq _ (by simp [Act.put]), Oper.upon_value, e1]
  show Code.wp P _ _ _ _
  have hcond := hok3.fr 4
  have hE : SoundE km P (fun _ _ _ => none) := fun _ _ _ _ _ h => by cases h
  have fin : ∀ {x : X} {fr' : Fr} {a' : Act} {w' : World} {K' : Nat → Nat → Option Nat}, x = .ret → Ok km cx 8 [] K' fr' σ' a' w' → Ext cx K σ w K' σ' w' → fr' 2 = r →
      bodyPost P fn (CallDone km cx K σ w r σ') (exitOf x) a' w' := by
    intro x fr' a' w' K' hx h hxt hfr
    subst hx
    obtain ⟨v', hv', rv'⟩ := results_rep (P := P) h.inv h.fr (r := r) hres (by simp [retOf, resOf, hfr])
    exact ⟨h.dfs, v', hv', v', K', rfl, rv', h.inv, hxt⟩
  cases a0 with
  | none =>
    have hx := hn0 rfl
    subst hx
    simp only [List.isEmpty_nil, if_true, Option.some.injEq, Prod.mk.injEq] at hF
    obtain ⟨rfl, rfl⟩ := hF
    refine wp_cond_true (hcond.inv_bool) ?_
    subst h2
    refine code_sound (cx := cx) hE hA hm 0 d2 _ _ _ _ .ret _ _ _ w _ hd2 (by simp only [evC, evOs, ev1, stp, evO, Option.map_some, Option.bind_some]; rfl) hok3 fun a' w' K' q1 q2 => ?_
    exact fin rfl q1 q2 rfl
  | some ad =>
    refine wp_cond_false (hcond.inv_bool) (wp_skip ?_)
    subst h3
    have hw : Wp (fun _ => none) (.seq (.rg false [⟨some 5, none, .mv (.c (.slice none 0 0))⟩, ⟨some 6, none, .mv (.t 0)⟩, ⟨some 7, none, .app es by_ false (.t 5) (.t 6)⟩, ⟨some 2, none, .mv (.t 7)⟩]) .ret)
        (fun x fr τ => x = .ret ∧ fr 2 = r ∧ τ = σ') ((((frOf [.sl xs]).put (some 2) .em).put (some 3) (.sl xs)).put (some 4) (.sc (.bool (some ad).isNone))) σ := by
      simp only [put_some]
      (repeat' first
    | refine w_seq ?_ | refine w_rg ?_ | refine wo_nil ?_ | refine g_skU ?_ | refine g_skT ?_ | refine g_skF ?_
    | ((first | apply s_plain | apply s_void | apply s_guard | apply g_goT | apply g_goF); · simp only [go_sem, Nat.reduceEqDiff, Nat.reduceAdd, Nat.reduceLeDiff]; (first | done | rfl))
    | ((first | apply g_T | apply g_F | apply g_gT | apply g_gF); · intro q1_; (first | intro q2_ | have q2_ := q1_); simp only [go_sem, Nat.reduceEqDiff, Nat.reduceAdd, Nat.reduceLeDiff, q1_, q2_]; (first | done | rfl))
    | (apply w_condX; · simp only [go_sem, Nat.reduceEqDiff, Nat.reduceAdd, Nat.reduceLeDiff]; (first | done | rfl)); (first | refine wcd_T ?_ | refine wcd_F ?_)
    | refine w_skip ?_ | refine w_exit ?_ | refine w_ret ?_
    | fail
    )
      have hall2 : (xs.all fun y => okc y && (cellsOf y).length == es) = true := hall
      have key : ∀ {q : Option (PV × St)}, (if xs.isEmpty then some (PV.em, σ) else some (.ob 7 (σ.c 7) es 0 xs.length, σ.new 7 ⟨es, xs, true, true⟩)) = q → q = some (r, σ') := fun h => by rw [← h, hF]
      refine s_plain (v := r) (σ' := σ') (by
        simp only [↓e_app, ↓pa_t, go_sem, srcOf, Nat.reduceEqDiff, elemsOf]
        rw [if_pos hall2]
        simp only [go_sem, hby]
        exact hF) ?_
      (repeat' first
    | refine w_seq ?_ | refine w_rg ?_ | refine wo_nil ?_ | refine g_skU ?_ | refine g_skT ?_ | refine g_skF ?_
    | ((first | apply s_plain | apply s_void | apply s_guard | apply g_goT | apply g_goF); · simp only [go_sem, Nat.reduceEqDiff, Nat.reduceAdd, Nat.reduceLeDiff]; (first | done | rfl))
    | ((first | apply g_T | apply g_F | apply g_gT | apply g_gF); · intro q1_; (first | intro q2_ | have q2_ := q1_); simp only [go_sem, Nat.reduceEqDiff, Nat.reduceAdd, Nat.reduceLeDiff, q1_, q2_]; (first | done | rfl))
    | (apply w_condX; · simp only [go_sem, Nat.reduceEqDiff, Nat.reduceAdd, Nat.reduceLeDiff]; (first | done | rfl)); (first | refine wcd_T ?_ | refine wcd_F ?_)
    | refine w_skip ?_ | refine w_exit ?_ | refine w_ret ?_
    | fail
    )
      exact ⟨rfl, by simp only [go_sem, Nat.reduceEqDiff, Nat.reduceAdd, Nat.reduceLeDiff], rfl⟩
    obtain ⟨x, fr', σ1, h1, h2, h3, rfl⟩ := hw
    obtain ⟨q, hq⟩ := EC_some h1
    have hE2 : SoundE km P (evF (fun _ => none) q) := evF_sound hm (fun _ _ h => by cases h) q
    exact code_sound (cx := cx) hE2 hA hm q d3 _ _ _ _ x fr' _ _ w _ hd3 hq hok3 fun a' w' K' q1 q2 => fin h2 q1 q2 h3

/-- bytealg.CompareString. -/
def cmpF : List PV → St → Option (PV × St)
  | [.sc (.string a), .sc (.string b)], σ => some (.sc (.int .i64 (Lib.compareBytes a.data.toList b.data.toList)), σ)
  | _, _ => none

theorem cmp_prim {k : Nat} (ho : Open P (km k)) (h : ∀ a b w, Calls P (km k) #[.string a, .string b] w fun e w' => e = .returned (.int .i64 (Lib.compareBytes a.data.toList b.data.toList)) ∧ w' = w) : PrimOk km P k cmpF := by
  intro args σ r σ' hF
  refine ⟨ho, fun cx K w vs hi hlen hr => ?_⟩
  unfold cmpF at hF
  split at hF
  · rename_i a b
    simp only [Option.some.injEq, Prod.mk.injEq] at hF
    obtain ⟨rfl, rfl⟩ := hF
    match vs, hlen with
    | [u, v], _ =>
      have e1 := (hr 0 u _ rfl rfl).inv_sc.1
      have e2 := (hr 1 v _ rfl rfl).inv_sc.1
      subst e1; subst e2
      refine (h a b w).mono ?_
      rintro e w' ⟨rfl, rfl⟩
      exact ⟨_, K, rfl, .sc _ rfl, hi, Ext.refl⟩
  · cases hF


def strOf : PV → Option ByteArray
  | .sc (.string s) => some s
  | _ => none

/-- strings.Join. -/
def joinF : List PV → St → Option (PV × St)
  | [.sl xs, .sc (.string sep)], σ => (xs.mapM strOf).bind fun ss => if ss.length ≤ 140737488355328 ∧ (Lib.join (ss.map (·.data.toList)) sep.data.toList).length ≤ 140737488355328 then some (.sc (.string ⟨(Lib.join (ss.map (·.data.toList)) sep.data.toList).toArray⟩), σ) else none
  | _, _ => none

theorem strOf_some {p : PV} {s : ByteArray} (h : strOf p = some s) : p = .sc (.string s) := by
  unfold strOf at h
  split at h
  · simp only [Option.some.injEq] at h; subst h; rfl
  · cases h

theorem join_prim {k : Nat} (ho : Open P (km k))
    (h : ∀ (bk o c : Nat) (xs : List ByteArray) (sep : ByteArray) (w : World), (∀ (j : Nat) x, xs[j]? = some x → w.cell? ⟨bk, o + j, none⟩ = some (.string x)) → bk < w.heap.size → xs.length ≤ 140737488355328 → xs.length ≤ c →
      (Lib.join (xs.map (·.data.toList)) sep.data.toList).length ≤ 140737488355328 → Calls P (km k) #[.slice (some ⟨bk, o, none⟩) xs.length c, .string sep] w fun e w' => e = .returned (.string ⟨(Lib.join (xs.map (·.data.toList)) sep.data.toList).toArray⟩) ∧ Below w.heap.size w w')
    (h0 : ∀ (a : Option Addr) (c : Nat) (sep : ByteArray) (w : World), Calls P (km k) #[.slice a 0 c, .string sep] w fun e w' => e = .returned (.string ⟨(Lib.join [] sep.data.toList).toArray⟩) ∧ w' = w) : PrimOk km P k joinF := by
  intro args σ r σ' hF
  refine ⟨ho, fun cx K w vs hi hlen hr => ?_⟩
  unfold joinF at hF
  split at hF
  · rename_i xs sep
    obtain ⟨ss, hss, hF⟩ := Option.bind_eq_some_iff.1 hF
    split at hF
    · rename_i hq
      simp only [Option.some.injEq, Prod.mk.injEq] at hF
      obtain ⟨rfl, rfl⟩ := hF
      obtain ⟨m1, _⟩ := mapM_get hss
      match vs, hlen with
      | [u, v], _ =>
        have e2 := (hr 1 v _ rfl rfl).inv_sc.1
        subst e2
        have ru := hr 0 u _ rfl rfl
        cases ru with
        | sl a n cap b off es xs us h1 h2 h3 h4 h5 h6 h7 =>
          cases hxs : xs with
          | nil =>
            subst hxs
            have hn : n = 0 := by simpa using h1
            subst hn
            have hs0 : ss = [] := List.eq_nil_of_length_eq_zero (by have := m1; simp only [List.length_nil] at this; omega)
            subst hs0
            refine (h0 a cap sep w).mono ?_
            rintro e w' ⟨rfl, rfl⟩
            exact ⟨_, K, rfl, .sc _ rfl, hi, Ext.refl⟩
          | cons x0 r0 =>
            have hpos : 0 < xs.length := by rw [hxs]; simp
            have ha : a = some ⟨b, off, none⟩ := by
              rcases h3 with h3 | h3
              · omega
              · exact h3
            subst ha
            have hes : es = 1 := by
              have hx := List.getElem?_eq_getElem hpos
              obtain ⟨s0, hs0, _⟩ := mapM_get' hss (List.getElem?_eq_getElem (show 0 < ss.length by omega))
              rw [hx] at hs0
              simp only [Option.some.injEq] at hs0
              have := h6 0 _ hx
              rename_i hstr
              rw [hs0, strOf_some hstr] at this
              exact this.symm
            subst hes
            have hcells : ∀ (j : Nat) x, ss[j]? = some x → w.cell? ⟨b, off + j, none⟩ = some (.string x) := by
              intro j x hx
              obtain ⟨p, hp1, hp2⟩ := mapM_get' hss hx
              have hp := strOf_some hp2
              subst hp
              have hj : j < xs.length := (List.getElem?_eq_some_iff.1 hp1).1
              obtain ⟨c1, _, _⟩ := h5 j 0 (by omega) (by omega)
              have c4 := (h7 j 0 _ _ hp1 rfl).inv_sc.1
              rw [Nat.mul_one, Nat.add_zero, c4] at c1
              exact c1
            have hlt : b < w.heap.size := by
              have := hcells 0 _ (List.getElem?_eq_getElem (show 0 < ss.length by omega))
              exact cell_lt (a := ⟨b, off + 0, none⟩) (by rw [this]; rfl)
            have hc := h b off cap ss sep w hcells hlt hq.1 (by omega) hq.2
            rw [show ss.length = n by omega] at hc
            refine hc.mono ?_
            rintro e w' ⟨rfl, hb⟩
            obtain ⟨g1, g2⟩ := inv_grow hi hb
            exact ⟨_, K, rfl, .sc _ rfl, g1, g2⟩
    · cases hF
  · cases hF

/-- strings.ReplaceAll, of something that is not empty. -/
def replF : List PV → St → Option (PV × St)
  | [.sc (.string s), .sc (.string old), .sc (.string new)], σ => if s.size < 4294967281 ∧ 1 ≤ old.size ∧ s.size + Lib.countB s old * new.size ≤ 140737488355328 then some (.sc (.string ⟨(Lib.replaceAll s.data.toList old.data.toList new.data.toList).toArray⟩), σ) else none
  | _, _ => none

theorem repl_prim {k : Nat} {g : Nat} {m : Int} (ho : Open P (km k)) (hg : km.G ⟨g, 0, none⟩ (.int .i64 m))
    (h : ∀ (s old new : ByteArray) (w : World), s.size < 4294967281 → w.cell? ⟨g, 0, none⟩ = some (.int .i64 m) → 1 ≤ old.size → s.size + Lib.countB s old * new.size ≤ 140737488355328 →
      Calls P (km k) #[.string s, .string old, .string new] w fun e w' => e = .returned (.string ⟨(Lib.replaceAll s.data.toList old.data.toList new.data.toList).toArray⟩) ∧ Below w.heap.size w w') : PrimOk km P k replF := by
  intro args σ r σ' hF
  refine ⟨ho, fun cx K w vs hi hlen hr => ?_⟩
  unfold replF at hF
  split at hF
  · rename_i s old new
    split at hF
    · rename_i hq
      simp only [Option.some.injEq, Prod.mk.injEq] at hF
      obtain ⟨rfl, rfl⟩ := hF
      match vs, hlen with
      | [u, v, x], _ =>
        have e1 := (hr 0 u _ rfl rfl).inv_sc.1
        have e2 := (hr 1 v _ rfl rfl).inv_sc.1
        have e3 := (hr 2 x _ rfl rfl).inv_sc.1
        subst e1; subst e2; subst e3
        refine (h s old new w hq.1 (hi.glob hg) hq.2.1 hq.2.2).mono ?_
        rintro e w' ⟨rfl, hb⟩
        obtain ⟨g1, g2⟩ := inv_grow hi hb
        exact ⟨_, K, rfl, .sc _ rfl, g1, g2⟩
    · cases hF
  · cases hF

end
end Go.Proofs.YtcpgkdaicglogaaGreatDoorPv
