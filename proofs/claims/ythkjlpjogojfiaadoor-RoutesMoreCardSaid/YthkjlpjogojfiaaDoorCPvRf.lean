/-
Own text of the proof.
-/
import Derived.Test.YthkjlpjogojfiaaDoorCPvRb
import Derived.Test.YthkjlpjogojfiaaDoorPkRoutesMoreB
import Derived.Test.YthkjlpjogojfiaaDoorPvLr
namespace Go.Proofs.YthkjlpjogojfiaaDoorPv
open Go
section
variable {P : Program}
theorem rb_small {s : ByteArray} (h : s.size ≤ reachBytes) : Small s := Nat.le_trans h (by decide)
theorem rb_len {n : Nat} (h : n ≤ reachBytes) : n ≤ 9223372036854775807 := Nat.le_trans h (by decide)
theorem rows_of {α : Type} {t e : TypeId} {ps : List PV} (h : Is P t ps) (he : P.underlying t = some (.slice e)) (hb : 0 < P.bytesOf e) (f : α → PV) (q : α → Prop) (hf : ∀ ys, Is P e ys → ∃ a, mkPV (isAgg P e) ys = f a ∧ q a) :
    ∃ l : List α, ps = [.sl (l.map f)] ∧ l.length ≤ reachBytes ∧ ∀ a ∈ l, q a := by
  obtain ⟨yss, rfl, h1, h2⟩ := h.sl' he
  have : ∀ zss : List (List PV), (∀ ys ∈ zss, Is P e ys) → ∃ l : List α, zss.map (mkPV (isAgg P e)) = l.map f ∧ l.length = zss.length ∧ ∀ a ∈ l, q a := by
    intro zss
    induction zss with
    | nil => intro _; exact ⟨[], rfl, rfl, fun a ha => by simp at ha⟩
    | cons ys r ih =>
      intro hz
      obtain ⟨l, e1, e2, e3⟩ := ih fun y hy => hz y (by simp [hy])
      obtain ⟨m, g1, g2⟩ := hf ys (hz ys (by simp))
      refine ⟨m :: l, by simp [g1, e1], by simp [e2], fun a ha => ?_⟩
      rcases List.mem_cons.1 ha with rfl | ha
      · exact g2
      · exact e3 a ha
  obtain ⟨l, e1, e2, e3⟩ := this yss h2
  refine ⟨l, by rw [e1], ?_, e3⟩
  rw [e2]
  exact Nat.le_trans (Nat.le_mul_of_pos_right _ hb) h1
def isMt (P : Program) (t : TypeId) : Bool := match fieldsOf P t with
  | [(0, a), (1, b), (2, c)] => isAgg P t && P.cellsOf t == 3 && [a, b, c].all (fun x => P.cellsOf x == 1) && (match P.underlying a with | some .string => true | _ => false) && (match P.underlying b with | some (.int .i64) => true | _ => false) && isStrs P c
  | _ => false
theorem mt_of {t : TypeId} {ps : List PV} (h : Is P t ps) (hk : isMt P t = true) : ∃ m : Mt, mkPV (isAgg P t) ps = mt m ∧ m.Held := by
  unfold isMt at hk
  split at hk
  · rename_i a b c hf
    simp only [Bool.and_eq_true, beq_iff_eq, List.all_cons, List.all_nil, Bool.and_true] at hk
    obtain ⟨⟨⟨⟨⟨k1, k2⟩, ka, kb, kc⟩, sa⟩, sb⟩, sc⟩ := hk
    obtain ⟨h1, h2⟩ := h.fields k1
    match ps, h1.trans k2 with
    | [p, q, r], _ =>
      have e1 := h2 (0, a) (by rw [hf]; simp)
      have e2 := h2 (1, b) (by rw [hf]; simp)
      have e3 := h2 (2, c) (by rw [hf]; simp)
      simp only [ka, kb, kc, List.drop_zero, List.take_succ_cons, List.take_zero, List.drop_succ_cons] at e1 e2 e3
      obtain ⟨s, rfl, hs⟩ := str_of e1 sa
      obtain ⟨n, rfl, _⟩ := int_of e2 sb
      obtain ⟨l, hl, hh⟩ := strs_of e3 sc
      simp only [List.cons.injEq, and_true] at hl
      subst hl
      exact ⟨⟨s, n, l⟩, by simp [mkPV, k1, mt], rb_small hs, rb_len hh.1, fun w hw => rb_small (hh.2 w hw)⟩
  · cases hk
def isMts (P : Program) (t : TypeId) : Bool := match P.underlying t with
  | some (.slice e) => isMt P e && decide (0 < P.bytesOf e)
  | _ => false
theorem mts_of {t : TypeId} {ps : List PV} (h : Is P t ps) (hk : isMts P t = true) : ∃ l : List Mt, ps = [.sl (mts l)] ∧ l.length ≤ reachBytes ∧ ∀ m ∈ l, m.Held := by
  unfold isMts at hk
  split at hk
  · rename_i e he
    simp only [Bool.and_eq_true, decide_eq_true_eq] at hk
    exact rows_of h he hk.2 mt Mt.Held fun ys hy => mt_of hy hk.1
  · cases hk
def isRt (P : Program) (t : TypeId) : Bool := match fieldsOf P t with
  | [(0, a), (1, b), (2, c), (3, d), (4, e), (5, f), (6, g), (7, h), (8, i)] => isAgg P t && P.cellsOf t == 9 && [a, b, c, d, e, f, g, h, i].all (fun x => P.cellsOf x == 1) && (match P.underlying a with | some .string => true | _ => false) && isMts P b && isStrs P c &&
      [d, e, f].all (fun x => match P.underlying x with | some (.int .i64) => true | _ => false) && isStrs P g && (match P.underlying h with | some .bool => true | _ => false) && (match P.underlying i with | some (.slice k) => k == t && decide (0 < P.bytesOf t) | _ => false)
  | _ => false
theorem bool_of {t : TypeId} {p : PV} (h : Is P t [p]) (hk : (match P.underlying t with | some .bool => true | _ => false) = true) : ∃ b : Bool, p = .sc (.bool b) := by
  split at hk
  · rename_i hu
    obtain ⟨s, hs⟩ := h.bool' hu
    simp only [List.cons.injEq, and_true] at hs
    exact ⟨s, hs⟩
  · cases hk
theorem rt_of_aux {t : TypeId} (hk : isRt P t = true) {u : TypeId} {ps : List PV} (h : Is P u ps) : (u = t → ∃ r : Rt, mkPV (isAgg P t) ps = rt r ∧ r.Held) ∧ (P.underlying u = some (.slice t) → 0 < P.bytesOf t → ∃ l : List Rt, ps = [.sl (rts l)] ∧ l.length ≤ reachBytes ∧ ∀ r ∈ l, r.Held) := by
  induction h with
  | bool u b hu =>
    refine ⟨fun e => ?_, fun e => by rw [hu] at e; cases e⟩
    subst e
    simp [isRt, fieldsOf, hu] at hk
  | int u k n hu hw =>
    refine ⟨fun e => ?_, fun e => by rw [hu] at e; cases e⟩
    subst e
    simp [isRt, fieldsOf, hu] at hk
  | str u s hu hs =>
    refine ⟨fun e => ?_, fun e => by rw [hu] at e; cases e⟩
    subst e
    simp [isRt, fieldsOf, hu] at hk
  | sl u e yss hu hw hy ih =>
    refine ⟨fun e => ?_, fun he hb => ?_⟩
    · subst e
      simp [isRt, fieldsOf, hu] at hk
    · rw [hu] at he
      simp only [Option.some.injEq, TypeDesc.slice.injEq] at he
      subst he
      have : ∀ zss : List (List PV), (∀ ys ∈ zss, ys ∈ yss) → ∃ l : List Rt, zss.map (mkPV (isAgg P e)) = rts l ∧ l.length = zss.length ∧ ∀ a ∈ l, a.Held := by
        intro zss
        induction zss with
        | nil => intro _; exact ⟨[], by rw [rts]; rfl, rfl, fun a ha => by simp at ha⟩
        | cons ys r ih2 =>
          intro hz
          obtain ⟨l, e1, e2, e3⟩ := ih2 fun y hy => hz y (by simp [hy])
          obtain ⟨m, g1, g2⟩ := (ih ys (hz ys (by simp))).1 rfl
          refine ⟨m :: l, by rw [rts, List.map_cons, g1, e1], by simp [e2], fun a ha => ?_⟩
          rcases List.mem_cons.1 ha with rfl | ha
          · exact g2
          · exact e3 a ha
      obtain ⟨l, e1, e2, e3⟩ := this yss fun _ h => h
      refine ⟨l, by rw [e1], ?_, e3⟩
      rw [e2]
      exact Nat.le_trans (Nat.le_mul_of_pos_right _ hb) hw
  | st u fs ps hu hl hf ih =>
    refine ⟨fun e => ?_, fun he => by rw [hu] at he; cases he⟩
    subst e
    have hI : Is P u ps := .st u fs ps hu hl hf
    have hk0 := hk
    unfold isRt at hk
    split at hk
    · rename_i a b c d e f g h i hfo
      simp only [Bool.and_eq_true, beq_iff_eq, List.all_cons, List.all_nil, Bool.and_true] at hk
      obtain ⟨⟨⟨⟨⟨⟨⟨⟨⟨k1, k2⟩, ka, kb, kc, kd, ke, kf, kg, kh, ki⟩, sa⟩, sb⟩, sc⟩, sd, se, sf⟩, sg⟩, sh⟩, si⟩ := hk
      obtain ⟨h1, h2⟩ := hI.fields k1
      split at si
      · rename_i k hk8
        simp only [Bool.and_eq_true, beq_iff_eq, decide_eq_true_eq] at si
        obtain ⟨rfl, hb⟩ := si
        -- the last field's row
        have hlast : ∃ l : List Rt, (ps.drop 8).take 1 = [.sl (rts l)] ∧ l.length ≤ reachBytes ∧ ∀ r ∈ l, r.Held := by
          have hm : ((8, i) : Nat × TypeId) ∈ fieldsOf P k := by rw [hfo]; simp
          simp only [fieldsOf, hu, List.mem_map] at hm
          obtain ⟨fd, hfd, hfe⟩ := hm
          obtain ⟨j, hj⟩ := List.getElem?_of_mem hfd
          simp only [Prod.mk.injEq] at hfe
          have := (ih j fd (by simpa using hj)).2
          rw [hfe.1, hfe.2, ki] at this
          exact this hk8 hb
        match ps, h1.trans k2, hlast with
        | [p0, p1, p2, p3, p4, p5, p6, p7, p8], _, hlast =>
          have e0 := h2 (0, a) (by rw [hfo]; simp)
          have e1 := h2 (1, b) (by rw [hfo]; simp)
          have e2 := h2 (2, c) (by rw [hfo]; simp)
          have e3 := h2 (3, d) (by rw [hfo]; simp)
          have e4 := h2 (4, e) (by rw [hfo]; simp)
          have e5 := h2 (5, f) (by rw [hfo]; simp)
          have e6 := h2 (6, g) (by rw [hfo]; simp)
          have e7 := h2 (7, h) (by rw [hfo]; simp)
          simp only [ka, kb, kc, kd, ke, kf, kg, kh, List.drop_zero, List.take_succ_cons, List.take_zero, List.drop_succ_cons] at e0 e1 e2 e3 e4 e5 e6 e7 hlast
          obtain ⟨s0, rfl, b0⟩ := str_of e0 sa
          obtain ⟨l1, hl1, b1, c1⟩ := mts_of e1 sb
          obtain ⟨l2, hl2, b2⟩ := strs_of e2 sc
          obtain ⟨n3, rfl, _⟩ := int_of e3 sd
          obtain ⟨n4, rfl, _⟩ := int_of e4 se
          obtain ⟨n5, rfl, _⟩ := int_of e5 sf
          obtain ⟨l6, hl6, b6⟩ := strs_of e6 sg
          obtain ⟨o7, rfl⟩ := bool_of e7 sh
          obtain ⟨l8, hl8, b8, c8⟩ := hlast
          simp only [List.cons.injEq, and_true] at hl1 hl2 hl6 hl8
          subst hl1; subst hl2; subst hl6; subst hl8
          refine ⟨.mk ⟨s0, l1, l2, n3, n4, n5, l6, o7⟩ l8, by rw [rt]; simp [mkPV, k1, rhd], ?_⟩
          exact ⟨_, _, ⟨rb_small b0, rb_len b1, c1, rb_len b2.1, fun w hw => rb_small (b2.2 w hw), rb_len b6.1, fun w hw => rb_small (b6.2 w hw)⟩, rb_len b8, c8⟩
      · cases si
    · cases hk
theorem rt_of {t : TypeId} {ps : List PV} (h : Is P t ps) (hk : isRt P t = true) : ∃ r : Rt, mkPV (isAgg P t) ps = rt r ∧ r.Held := (rt_of_aux hk h).1 rfl
end
end Go.Proofs.YthkjlpjogojfiaaDoorPv

