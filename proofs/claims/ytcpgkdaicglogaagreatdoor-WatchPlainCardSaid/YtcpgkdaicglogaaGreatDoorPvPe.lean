/-
Library functions that are told by hand: slices.Insert, slices.Delete, for the evaluator.
-/
import Derived.Test.YtcpgkdaicglogaaGreatDoorPvPd
import Derived.Test.YtcpgkdaicglogaaGreatDoorPvW
import Derived.Test.YtcpgkdaicglogaaGreatDoorPvN
namespace Go.Proofs.YtcpgkdaicglogaaGreatDoorPv
open Go Go.RowKit Go.Shelf Go.Lib
set_option linter.unusedVariables false
set_option linter.unusedSimpArgs false

def insF (es by_ : Nat) : List PV → St → Option (PV × St)
  | [s, .sc (.int .i64 i), .ob o2 g2 es2 i2 m], σ => match σ.m o2 g2 with
    | some y2 => if i2 = 0 ∧ es2 = es ∧ y2.es = es ∧ m = y2.xs.length ∧ y2.al = true ∧ y2.wr = true ∧ 0 < m ∧ (y2.xs.all fun y => okc y && (cellsOf y).length == es) = true then match s with
        | .em => if i = 0 ∧ m * by_ ≤ 70368744177664 then some (.ob 25 (σ.c 25) es 0 m, σ.new 25 ⟨es, y2.xs, true, true⟩) else none
        | .ob o g es1 i1 n => match σ.m o g with
          | some y => if (i1 = 0 ∧ es1 = es ∧ y.es = es ∧ n = y.xs.length ∧ y.al = true ∧ y.wr = true) ∧ 0 ≤ i ∧ i ≤ n ∧ ¬ (o = o2 ∧ g = g2) ∧ (n + m) * by_ ≤ 70368744177664 then
              some (.ob 25 (σ.c 25) es 0 (n + m), (σ.put o g none).new 25 ⟨es, y.xs.take i.toNat ++ (y2.xs ++ y.xs.drop i.toNat), true, true⟩) else none
          | none => none
        | _ => none
      else none
    | none => none
  | _, _ => none

def delF (es : Nat) : List PV → St → Option (PV × St)
  | [.ob o g es1 i1 n, .sc (.int .i64 i), .sc (.int .i64 j)], σ => match σ.m o g with
    | some y => if (i1 = 0 ∧ es1 = es ∧ y.es = es ∧ n = y.xs.length ∧ y.al = true ∧ y.wr = true) ∧ 0 ≤ i ∧ i < j ∧ j ≤ n then
        some (.ob 26 (σ.c 26) es 0 (i.toNat + (n - j.toNat)), (σ.put o g none).new 26 ⟨es, y.xs.take i.toNat ++ y.xs.drop j.toNat, true, true⟩) else none
    | none => none
  | _, _ => none

/-! ### memory -/
theorem setCells_app (b : Nat) : ∀ (vs us : List Value) (o : Nat) (w : World), w.setCells b o (vs ++ us) = (w.setCells b o vs).setCells b (o + vs.length) us
  | [], us, o, w => rfl
  | v :: r, us, o, w => by
    simp only [List.cons_append, World.setCells, List.length_cons]
    rw [setCells_app b r us (o + 1), show o + 1 + r.length = o + (r.length + 1) by omega]

theorem setCell_comm (w : World) {b i j : Nat} (h : i ≠ j) (x y : Value) : (w.setCell ⟨b, i, none⟩ x).setCell ⟨b, j, none⟩ y = (w.setCell ⟨b, j, none⟩ y).setCell ⟨b, i, none⟩ x := by
  have e : (w.heap.modify b fun | .cells c t fr => .cells (c.setIfInBounds i x) t fr | o => o).modify b (fun | .cells c t fr => .cells (c.setIfInBounds j y) t fr | o => o) =
      (w.heap.modify b fun | .cells c t fr => .cells (c.setIfInBounds j y) t fr | o => o).modify b (fun | .cells c t fr => .cells (c.setIfInBounds i x) t fr | o => o) := by
    apply Array.ext_getElem?
    intro k
    simp only [Array.getElem?_modify]
    split
    · cases w.heap[k]? with
      | none => rfl
      | some o =>
        cases o with
        | cells c t fr => simp [Array.setIfInBounds_comm _ _ h]
        | _ => rfl
    · rfl
  simp only [World.setCell, Option.isSome_none, Bool.false_eq_true, if_false]
  exact congrArg (fun h => ({ w with heap := h } : World)) e

theorem setCells_comm1 (b : Nat) : ∀ (vs : List Value) (o : Nat) (w : World) (i : Nat) (x : Value), (i < o ∨ o + vs.length ≤ i) → (w.setCells b o vs).setCell ⟨b, i, none⟩ x = (w.setCell ⟨b, i, none⟩ x).setCells b o vs
  | [], _, _, _, _, _ => rfl
  | v :: r, o, w, i, x, h => by
    simp only [World.setCells, List.length_cons] at h ⊢
    rw [setCells_comm1 b r (o + 1) _ i x (by omega), setCell_comm w (by omega)]

theorem setCells_comm (b : Nat) : ∀ (us vs : List Value) (o k : Nat) (w : World), (k + us.length ≤ o ∨ o + vs.length ≤ k) → (w.setCells b o vs).setCells b k us = (w.setCells b k us).setCells b o vs
  | [], _, _, _, _, _ => rfl
  | u :: r, vs, o, k, w, h => by
    simp only [World.setCells, List.length_cons] at h ⊢
    rw [setCells_comm1 b vs o w k u (by omega), setCells_comm b r vs o (k + 1) _ (by omega)]

def putA (c : Array Value) : Nat → List Value → Array Value
  | _, [] => c
  | k, v :: r => putA (c.setIfInBounds k v) (k + 1) r

theorem putA_size : ∀ (vs : List Value) (c : Array Value) (k : Nat), (putA c k vs).size = c.size
  | [], _, _ => rfl
  | v :: r, c, k => by simp only [putA]; rw [putA_size r]; simp

theorem putA_get : ∀ (vs : List Value) (c : Array Value) (k j : Nat), k + vs.length ≤ c.size → (putA c k vs)[j]? = if k ≤ j ∧ j < k + vs.length then vs[j - k]? else c[j]?
  | [], c, k, j, h => by
    simp only [putA, List.length_nil]
    rw [if_neg (by omega)]
  | v :: r, c, k, j, h => by
    simp only [putA, List.length_cons] at h ⊢
    rw [putA_get r _ (k + 1) j (by simp; omega)]
    by_cases h1 : k + 1 ≤ j ∧ j < k + 1 + r.length
    · rw [if_pos h1, if_pos (by omega)]
      rw [show j - k = (j - (k + 1)) + 1 by omega, List.getElem?_cons_succ]
    · rw [if_neg h1]
      by_cases h2 : j = k
      · subst h2
        rw [if_pos (by omega), Nat.sub_self, List.getElem?_cons_zero]
        rw [Array.getElem?_setIfInBounds_self]
        rw [if_pos (by omega)]
      · rw [if_neg (by omega), Array.getElem?_setIfInBounds_ne (by omega)]

theorem alloc_setCells (t : TypeId) : ∀ (vs : List Value) (w : World) (c : Array Value) (k : Nat), (w.alloc (.cells c t)).setCells w.heap.size k vs = w.alloc (.cells (putA c k vs) t)
  | [], _, _, _ => rfl
  | v :: r, w, c, k => by
    simp only [World.setCells, putA]
    rw [World.setCell_alloc_at (w := w) c t w.heap.size k v rfl, alloc_setCells t r]

section
variable {km : Km} {P : Program} {A : Ann} {cx : Cx km} {K : Nat → Nat → Option Nat} {σ σ' : St} {w : World}

/-- The cells of an object. -/
theorem obj_cells (hi : Inv km cx K σ w) {o g b : Nat} {y : Obj} (hm : σ.m o g = some y) (hk : K o g = some b) (hes : 0 < y.es) :
    ∃ cs : List Value, cs.length = y.xs.length * y.es ∧ (∀ v ∈ cs, v.oneCell' = true) ∧ (∀ j v, cs[j]? = some v → w.cell? ⟨b, j, none⟩ = some v) ∧
      ∀ (i j : Nat) e p, y.xs[i]? = some e → (cellsOf e)[j]? = some p → ∃ c, cs[i * y.es + j]? = some c ∧ RepS km cx K σ w c p := by
  obtain ⟨b', hk', hc⟩ := hi.dom _ _ _ hm
  obtain rfl : b' = b := by rw [hk] at hk'; simpa using hk'.symm
  obtain ⟨news, hn, hnews⟩ := list_of (n := y.xs.length * y.es) (p := fun k u => w.cell? ⟨b', k, none⟩ = some u ∧ u.oneCell' = true ∧ ∀ e q, y.xs[k / y.es]? = some e → (cellsOf e)[k % y.es]? = some q → RepS km cx K σ w u q) fun k hk => by
    have hi' : k / y.es < y.xs.length := Nat.div_lt_of_lt_mul (by rw [Nat.mul_comm]; exact hk)
    have hy := List.getElem?_eq_getElem hi'
    have hj : k % y.es < (cellsOf y.xs[k / y.es]).length := by rw [hc.len _ _ hy]; exact Nat.mod_lt _ hes
    obtain ⟨u, c1, c2, c3, _⟩ := hc.cell _ _ _ _ hy (List.getElem?_eq_getElem hj)
    have : k / y.es * y.es + k % y.es = k := by rw [Nat.mul_comm]; exact Nat.div_add_mod k y.es
    rw [this] at c1
    refine ⟨u, c1, c2, fun e q h1 h2 => ?_⟩
    rw [hy] at h1
    simp only [Option.some.injEq] at h1
    subst h1
    rw [List.getElem?_eq_getElem hj] at h2
    simp only [Option.some.injEq] at h2
    rw [← h2]; exact c3
  refine ⟨news, hn, fun v hv => ?_, fun j v hj => (hnews j v hj).1, fun i j e q he hq => ?_⟩
  · obtain ⟨k, hk⟩ := List.getElem?_of_mem hv
    exact (hnews k v hk).2.1
  · have h1 := (List.getElem?_eq_some_iff.1 he).1
    have h2 := (List.getElem?_eq_some_iff.1 hq).1
    rw [hc.len i e he] at h2
    have hk : i * y.es + j < news.length := by
      rw [hn]
      have : (i + 1) * y.es ≤ y.xs.length * y.es := Nat.mul_le_mul_right _ h1
      rw [Nat.add_mul] at this; omega
    refine ⟨_, List.getElem?_eq_getElem hk, (hnews _ _ (List.getElem?_eq_getElem hk)).2.2 e q ?_ ?_⟩
    · rw [show (i * y.es + j) / y.es = i by rw [Nat.mul_comm, Nat.mul_add_div hes, Nat.div_eq_of_lt h2]; omega]; exact he
    · rw [show (i * y.es + j) % y.es = j by rw [Nat.mul_comm, Nat.mul_add_mod]; exact Nat.mod_eq_of_lt h2]; exact hq

/-- Of a row that may be written less may be known. -/
theorem inv_trunc (hi : Inv km cx K σ w) {o1 g1 : Nat} {y : Obj} (hm : σ.m o1 g1 = some y) (hal : y.al = true) (hwr : y.wr = true) (k : Nat) :
    Inv km cx K (σ.put o1 g1 (some { y with xs := y.xs.take k })) w ∧ Ext cx K σ w K (σ.put o1 g1 (some { y with xs := y.xs.take k })) w := by
  have hput : ∀ o g x', (σ.put o1 g1 (some { y with xs := y.xs.take k })).m o g = some x' → (o = o1 ∧ g = g1 ∧ x' = { y with xs := y.xs.take k }) ∨ (¬ (o = o1 ∧ g = g1) ∧ σ.m o g = some x') := by
    intro o g x' h
    simp only [St.put] at h
    split at h
    · rename_i hq
      simp only [Option.some.injEq] at h
      exact .inl ⟨hq.1, hq.2, h.symm⟩
    · rename_i hq
      exact .inr ⟨hq, h⟩
  have hst : ∀ a, Stab cx K σ w a → Stab cx K (σ.put o1 g1 (some { y with xs := y.xs.take k })) w a := by
    intro a ha
    rcases ha with h | ⟨h1, h2, h3⟩
    · exact .inl h
    · refine .inr ⟨h1, h2, fun o g x' hx' hal' hk => ?_⟩
      rcases hput o g x' hx' with ⟨rfl, rfl, rfl⟩ | ⟨_, hx⟩
      · have := (h3 _ _ y hm hal hk).1
        rw [hwr] at this; cases this
      · exact h3 o g x' hx hal' hk
  have hext : Ext cx K σ w K (σ.put o1 g1 (some { y with xs := y.xs.take k })) w := ⟨fun _ _ _ h => h, fun _ _ _ h => h, fun a h _ => hst a h, fun _ h => h⟩
  refine ⟨⟨hi.bel, hi.kb, hi.iss, fun o g x' h => ?_, fun o g x' b h1 h2 h3 => ?_, fun o g x' o2 g2 x2 b h1 h2 h3 h4 h5 h6 => ?_, hi.bld, fun o g l h => ?_, hi.mdis⟩, hext⟩
  · rcases hput o g x' h with ⟨rfl, rfl, rfl⟩ | ⟨_, hx⟩
    · obtain ⟨b, h1, h2⟩ := hi.dom _ _ _ hm
      have htk : ∀ (i : Nat) e, (y.xs.take k)[i]? = some e → y.xs[i]? = some e := by
        intro i e he
        rw [List.getElem?_take] at he
        split at he
        · exact he
        · cases he
      refine ⟨b, h1, fun i e he => h2.len i e (htk i e he), fun i j e p he hp => ?_⟩
      obtain ⟨v, c1, c2, c3, c4⟩ := h2.cell i j e p (htk i e he) hp
      refine ⟨v, c1, c2, hext.rep c3, fun hf => ?_⟩
      simp only [hal, hwr] at hf
      cases hf
    · obtain ⟨b, h1, h2⟩ := hi.dom _ _ _ hx
      refine ⟨b, h1, h2.len, fun i j e p he hp => ?_⟩
      obtain ⟨v, c1, c2, c3, c4⟩ := h2.cell i j e p he hp
      exact ⟨v, c1, c2, hext.rep c3, fun hf => hst _ (c4 hf)⟩
  · rcases hput o g x' h1 with ⟨rfl, rfl, rfl⟩ | ⟨_, hx⟩
    · obtain ⟨e1, e2⟩ := hi.alv _ _ _ b hm hal h3
      refine ⟨e1, fun off hf => ?_⟩
      have := (e2 off hf).1
      rw [hwr] at this; cases this
    · exact hi.alv o g x' b hx h2 h3
  · have hp : ∀ o g x', (σ.put o1 g1 (some { y with xs := y.xs.take k })).m o g = some x' → x'.al = true → ∃ x, σ.m o g = some x ∧ x.al = true := by
      intro o g x' h h'
      rcases hput o g x' h with ⟨rfl, rfl, rfl⟩ | ⟨_, hx⟩
      · exact ⟨y, hm, hal⟩
      · exact ⟨x', hx, h'⟩
    obtain ⟨x, q1, q2⟩ := hp o g x' h1 h2
    obtain ⟨x3, q3, q4⟩ := hp o2 g2 x2 h4 h5
    exact hi.dis o g x o2 g2 x3 b q1 q2 h3 q3 q4 h6
  · obtain ⟨b, r1, r2⟩ := hi.mdom o g l h
    exact ⟨b, r1, r2.ext hext rfl⟩

theorem new_put (σ : St) (s : Nat) (x y : Obj) : (σ.new s x).put s (σ.c s) (some y) = σ.new s y := by
  unfold St.new St.put
  simp only [St.mk.injEq, and_true]
  funext o' g'
  by_cases hq : o' = s ∧ g' = σ.c s
  · rw [if_pos hq, if_pos hq]
  · rw [if_neg hq, if_neg hq, if_neg hq]

theorem put_put (σ : St) (o g : Nat) (x y : Option Obj) : (σ.put o g x).put o g y = σ.put o g y := by
  simp only [St.put]
  congr 1
  funext o' g'
  split <;> rfl

theorem rowsL {xs ys : List PV} {olds news : List Value} {es : Nat} {Q : Value → PV → Prop} (hl : olds.length = xs.length * es)
    (h1 : ∀ (i j : Nat) e p, xs[i]? = some e → (cellsOf e)[j]? = some p → ∃ u, olds[i * es + j]? = some u ∧ Q u p) (h2 : ∀ (i j : Nat) e p, ys[i]? = some e → (cellsOf e)[j]? = some p → ∃ u, news[i * es + j]? = some u ∧ Q u p) :
    ∀ (i j : Nat) e p, (xs ++ ys)[i]? = some e → (cellsOf e)[j]? = some p → ∃ u, (olds ++ news)[i * es + j]? = some u ∧ Q u p := by
  intro i j e p he hp
  have := rows_append (zs := #[]) hl h1 h2 i j e p he hp
  simpa using this

theorem all_len {es : Nat} {ys : List PV} (h : (ys.all fun y => okc y && (cellsOf y).length == es) = true) (i : Nat) (e : PV) (he : ys[i]? = some e) : (cellsOf e).length = es := by
  have := List.all_eq_true.1 h e (List.mem_of_getElem? he)
  simp only [Bool.and_eq_true, beq_iff_eq] at this
  exact this.2

theorem alv_shape (hi : Inv km cx K σ w) {o g b : Nat} {y : Obj} (hm : σ.m o g = some y) (hal : y.al = true) (hwr : y.wr = true) (hk : K o g = some b) :
    (∃ t n, w.shape? b = some (t, n)) ∧ ∀ off, w.frozen? ⟨b, off, none⟩ = false := by
  obtain ⟨⟨c, t, fr, h1⟩, h2⟩ := hi.alv _ _ _ b hm hal hk
  refine ⟨⟨t, c.size, by unfold World.shape?; rw [h1]⟩, fun off => ?_⟩
  cases hf : w.frozen? ⟨b, off, none⟩ with
  | false => rfl
  | true => have := (h2 off hf).1; rw [hwr] at this; cases this

theorem shape_pos {b n : Nat} {t : TypeId} (hs : w.shape? b = some (t, n)) (hc : (w.cell? ⟨b, 0, none⟩).isSome = true) : n ≠ 0 := by
  unfold World.shape? at hs
  unfold World.cell? at hc
  split at hs
  · rename_i c t' fr hb
    simp only [Option.some.injEq, Prod.mk.injEq] at hs
    simp only [hb] at hc
    rw [← hs.2]
    intro h0
    rw [Array.getElem?_eq_none (by omega)] at hc
    cases hc
  · cases hs

/-- An object whose row is written anew from an element on: it is another object then. -/
theorem inv_redo (hi : Inv km cx K σ w) {o g b i s : Nat} {y : Obj} (hs : Plain s) (hm : σ.m o g = some y) (hal : y.al = true) (hwr : y.wr = true) (hk : K o g = some b) (hin : i ≤ y.xs.length) {zs : List PV} {vs : List Value}
    (hsm : ∀ k, k < vs.length → (w.cell? ⟨b, i * y.es + k, none⟩).isSome = true) (hone : ∀ v ∈ vs, v.oneCell' = true)
    (hlen : ∀ (i : Nat) e, zs[i]? = some e → (cellsOf e).length = y.es)
    (hc : ∀ (i j : Nat) e p, zs[i]? = some e → (cellsOf e)[j]? = some p → ∃ v, vs[i * y.es + j]? = some v ∧ RepS km cx K σ w v p) :
    Inv km cx (Kput K s (σ.c s) b) ((σ.put o g none).new s ⟨y.es, y.xs.take i ++ zs, true, true⟩) (w.setCells b (i * y.es) vs) ∧ Ext cx K σ w (Kput K s (σ.c s) b) ((σ.put o g none).new s ⟨y.es, y.xs.take i ++ zs, true, true⟩) (w.setCells b (i * y.es) vs) := by
  obtain ⟨i1, x1⟩ := inv_trunc hi hm hal hwr i
  have hti : (y.xs.take i).length = i := by rw [List.length_take]; omega
  have hm1 : (σ.put o g (some { y with xs := y.xs.take i })).m o g = some { y with xs := y.xs.take i } := by simp [St.put]
  have := inv_room (s := s) (σ' := ((σ.put o g none).new s ⟨y.es, y.xs.take i ++ zs, true, true⟩)) (wr' := true) hs.site i1 hm1 hal hk vs zs
    (by simp only [hti]; exact hsm) hone hlen (fun i j e p h1 h2 => by obtain ⟨v, c1, c2⟩ := hc i j e p h1 h2; exact ⟨v, c1, x1.rep c2⟩)
    (fun o' g' x' hx => by
      have hx : (if o' = s ∧ g' = σ.c s then some ⟨y.es, y.xs.take i ++ zs, true, true⟩ else if o' = o ∧ g' = g then none else σ.m o' g' : Option Obj) = some x' := hx
      by_cases hq : o' = s ∧ g' = σ.c s
      · rw [if_pos hq] at hx
        simp only [Option.some.injEq] at hx
        exact .inl ⟨hq.1, hq.2, hx.symm⟩
      · rw [if_neg hq] at hx
        by_cases hq2 : o' = o ∧ g' = g
        · rw [if_pos hq2] at hx; cases hx
        · rw [if_neg hq2] at hx
          refine .inr (.inr ⟨hq2, hq, ?_⟩)
          simp only [St.put]
          rw [if_neg hq2]; exact hx)
    (fun _ => ⟨hwr, fun x' hx => by
      simp only [St.new, St.put] at hx
      split at hx
      · assumption
      · simp at hx⟩) rfl
  simp only [hti] at this
  exact ⟨this.1, x1.trans this.2⟩

theorem zc_one {z : Array Value} {es n : Nat} {v : Value} (hz : z.size = es) (he : 0 < es) (h1 : ∀ v ∈ z, v.oneCell' = true) (h : v ∈ (Builtin.zeroCells z n).toList) : v.oneCell' = true := by
  obtain ⟨j, hj⟩ := List.getElem?_of_mem h
  rw [Array.getElem?_toList] at hj
  simp only [Builtin.zeroCells] at hj
  obtain ⟨hj1, hj2⟩ := Array.getElem?_eq_some_iff.1 hj
  simp only [Array.getElem_map, Array.getElem_range] at hj2
  have hlt : j % z.size < z.size := Nat.mod_lt _ (by omega)
  have hgd : v = z[j % z.size] := by
    rw [← hj2]
    simp [getElem!_pos, hlt]
  rw [hgd]
  exact h1 _ (Array.getElem_mem hlt)

theorem del_prim {k es : Nat} {ρ : Ren} {z : Value} (ho : Open P (km k)) (L : DelOk P ρ (km k) es z) : PrimOk km P k (delF es) := by
  intro args σ r σ' hF
  refine ⟨ho, fun cx K w vs hi hlen hr => ?_⟩
  unfold delF at hF
  split at hF
  · rename_i o g es1 i1 n i j
    split at hF
    · rename_i y hm
      split at hF
      · rename_i hq
        obtain ⟨⟨rfl, rfl, hye, rfl, hal, hwr⟩, h0, hij, hj⟩ := hq
        simp only [Option.some.injEq, Prod.mk.injEq] at hF
        obtain ⟨rfl, rfl⟩ := hF
        match vs, hlen with
        | [v0, v1, v2], _ =>
          have e1 := (hr 1 v1 _ rfl rfl).inv_sc.1
          have e2 := (hr 2 v2 _ rfl rfl).inv_sc.1
          subst e1; subst e2
          have r0 := hr 0 v0 _ rfl rfl
          cases r0 with
          | ob _ _ _ _ _ c b a hk hnc hba hcs =>
            have hes0 := L.es0
            obtain ⟨i, rfl⟩ : ∃ q : Nat, i = q := ⟨i.toNat, by omega⟩
            obtain ⟨j, rfl⟩ : ∃ q : Nat, j = q := ⟨j.toNat, by omega⟩
            simp only [Int.toNat_natCast] at *
            subst hye
            obtain ⟨cs, c1, c2, c3, c4⟩ := obj_cells hi hm hk hes0
            obtain ⟨⟨t, sz, hsh⟩, hfz⟩ := alv_shape hi hm hal hwr hk
            have ha : a = some ⟨b, 0, none⟩ := by
              rcases hba with h | h
              · omega
              · rw [h, Nat.zero_mul]
            subst ha
            have hsub : (y.xs.length - j) * y.es = y.xs.length * y.es - j * y.es := Nat.sub_mul _ _ _
            have hje : j * y.es ≤ y.xs.length * y.es := Nat.mul_le_mul_right _ (by omega)
            have hie : i * y.es ≤ j * y.es := Nat.mul_le_mul_right _ (by omega)
            have hadd : (i + (y.xs.length - j)) * y.es = i * y.es + (y.xs.length - j) * y.es := Nat.add_mul _ _ _
            have hrest : (y.xs.length - (i + (y.xs.length - j))) * y.es = y.xs.length * y.es - (i + (y.xs.length - j)) * y.es := Nat.sub_mul _ _ _
            refine (del_walk L b y.xs.length c i j cs w (by omega) (by omega) hnc c1 c3 (fun k _ => hfz k) c2).mono ?_
            rintro e w' ⟨rfl, rfl⟩
            have hdrop : (cs.drop (j * y.es)).length = (y.xs.length - j) * y.es := by rw [List.length_drop, c1, hsub]
            have hzl : (Builtin.zeroCells z.cells (y.xs.length - (i + (y.xs.length - j)))).toList.length = (y.xs.length - (i + (y.xs.length - j))) * y.es := by rw [Array.length_toList, zc_size L.zc]
            have hw : (w.drew.setCells b (i * y.es) (cs.drop (j * y.es))).setCells b ((i + (y.xs.length - j)) * y.es) (Builtin.zeroCells z.cells (y.xs.length - (i + (y.xs.length - j)))).toList =
                w.drew.setCells b (i * y.es) (cs.drop (j * y.es) ++ (Builtin.zeroCells z.cells (y.xs.length - (i + (y.xs.length - j)))).toList) := by
              rw [setCells_app, hdrop, hadd]
            rw [hw]
            obtain ⟨d1, d2⟩ := inv_grow hi (Below.refl w.heap.size w).drew
            obtain ⟨f1, f2⟩ := inv_redo (s := 26) (zs := y.xs.drop j ++ List.replicate (y.xs.length - (i + (y.xs.length - j))) (PV.agg (List.replicate y.es PV.jk))) (vs := cs.drop (j * y.es) ++ (Builtin.zeroCells z.cells (y.xs.length - (i + (y.xs.length - j)))).toList)
              d1 (by unfold Plain; omega) hm hal hwr hk (i := i) (by omega)
              (fun k hk2 => by
                rw [List.length_append, hdrop, hzl] at hk2
                have := c3 (i * y.es + k) _ (List.getElem?_eq_getElem (by omega))
                show (w.cell? _).isSome = true
                rw [this]; rfl)
              (fun v hv => by
                rcases List.mem_append.1 hv with h | h
                · exact c2 v (List.mem_of_mem_drop h)
                · exact zc_one L.zc hes0 (fun v hv => List.all_eq_true.1 L.zo v (Array.mem_toList_iff.2 hv)) h)
              (fun q e he => by
                by_cases hq : q < (y.xs.drop j).length
                · rw [List.getElem?_append_left hq, List.getElem?_drop] at he
                  obtain ⟨b', _, hc⟩ := hi.dom _ _ _ hm
                  exact hc.len _ _ he
                · rw [List.getElem?_append_right (by omega)] at he
                  have := List.eq_of_mem_replicate (List.mem_of_getElem? he)
                  subst this
                  simp [cellsOf])
              (rowsL (Q := fun u p => RepS km cx K σ w.drew u p) (by rw [hdrop, List.length_drop]) (fun q t e p he hp => by
                rw [List.getElem?_drop] at he
                obtain ⟨u, u1, u2⟩ := c4 (j + q) t e p he hp
                refine ⟨u, ?_, d2.rep u2⟩
                rw [List.getElem?_drop, ← u1]
                congr 1
                rw [Nat.add_mul]; omega)
               (fun q t e p he hp => by
                have hql : q < y.xs.length - (i + (y.xs.length - j)) := by have := (List.getElem?_eq_some_iff.1 he).1; simpa using this
                have := List.eq_of_mem_replicate (List.mem_of_getElem? he)
                subst this
                have htl : t < y.es := by have := (List.getElem?_eq_some_iff.1 hp).1; simpa [cellsOf] using this
                have hpj := List.eq_of_mem_replicate (List.mem_of_getElem? (show (List.replicate y.es PV.jk)[t]? = some p from hp))
                subst hpj
                refine ⟨_, List.getElem?_eq_getElem ?_, .jk _⟩
                rw [hzl]
                have : (q + 1) * y.es ≤ (y.xs.length - (i + (y.xs.length - j))) * y.es := Nat.mul_le_mul_right _ hql
                rw [Nat.add_mul] at this; omega))
            have hnew : ∀ x, ((σ.put o g none).new 26 x).m 26 (σ.c 26) = some x := fun x => by
              show (if (26 : Nat) = 26 ∧ σ.c 26 = (σ.put o g none).c 26 then some x else _) = some x
              rw [if_pos ⟨rfl, rfl⟩]
            obtain ⟨t1, t2⟩ := inv_trunc f1 (hnew _) rfl rfl (i + (y.xs.length - j))
            have hlen1 : (y.xs.take i).length = i := by rw [List.length_take]; omega
            have hst : ((σ.put o g none).new 26 ⟨y.es, y.xs.take i ++ (y.xs.drop j ++ List.replicate (y.xs.length - (i + (y.xs.length - j))) (PV.agg (List.replicate y.es PV.jk))), true, true⟩).put 26 (σ.c 26) (some ⟨y.es, (y.xs.take i ++ (y.xs.drop j ++ List.replicate (y.xs.length - (i + (y.xs.length - j))) (PV.agg (List.replicate y.es PV.jk)))).take (i + (y.xs.length - j)), true, true⟩) =
                (σ.put o g none).new 26 ⟨y.es, y.xs.take i ++ y.xs.drop j, true, true⟩ := by
              have e1 : (y.xs.take i ++ (y.xs.drop j ++ List.replicate (y.xs.length - (i + (y.xs.length - j))) (PV.agg (List.replicate y.es PV.jk)))).take (i + (y.xs.length - j)) = y.xs.take i ++ y.xs.drop j := by
                rw [← List.append_assoc, List.take_append_of_le_length (by rw [List.length_append, hlen1, List.length_drop]; omega), List.take_of_length_le (by rw [List.length_append, hlen1, List.length_drop]; omega)]
              rw [e1]
              exact new_put (σ.put o g none) 26 _ _
            rw [hst] at t1 t2
            refine ⟨_, _, rfl, ?_, t1, d2.trans (f2.trans t2)⟩
            refine .ob 26 (σ.c 26) y.es 0 _ c b _ Kput_new (by omega) (.inr (by rw [Nat.zero_mul])) fun q hq => ?_
            exact (d2.trans (f2.trans t2)).some_ _ (hcs q hq)
      · cases hF
    · cases hF
  · cases hF

/-- What an append answers, run as it stands. -/
theorem app_run {E : Ev} {t e : TypeId} {es by_ : Nat} {z : Value} {p q r : PV} {u v : Value} (hi : Inv km cx K σ w) (ht : P.underlying t = some (.slice e)) (hes : sizeB P e = some es) (hby : bytesB P e = some by_) (hz : zeroB P e = some z) (h0 : 0 < es) (h1 : 0 < by_) (hzc : z.cells.size = es)
    (ru : RepS km cx K σ w u p) (rv : RepS km cx K σ w v q) (he : evO E 25 (frOf [p, q]) σ (.app es by_ true (.t 0) (.t 1)) = some (r, σ')) :
    ∃ v' w' K', (Builtin.append_ #[t, t] t #[u, v]).run P w = .ok v' w' ∧ RepS km cx K' σ' w' v' r ∧ Inv km cx K' σ' w' ∧ Ext cx K σ w K' σ' w' := by
  obtain ⟨x, v', w', K', h1, h2, h3, h4, h5⟩ := app_core (A := ⟨fun _ => none, fun _ => .pure, .pure, false, km.bt, none, []⟩) (a := { tmps := #[u, v], defers := [] }) (s := 25)
    (o := { dst := some 25, op := .call { callee := .builtin .append, args := #[.tmp 0, .tmp 1], argTypes := #[t, t] }, type := t, pos := "", after := #[], guard := none })
    (c := { callee := .builtin .append, args := #[.tmp 0, .tmp 1], argTypes := #[t, t] }) (sv := .tmp 0) (x := .tmp 1) (u := t)
    ⟨fun f k h => (by cases h), rfl, fun t h => (by cases h)⟩ (fun k => by
      match k with
      | 0 => exact ru
      | 1 => exact rv
      | k + 2 => exact .jk _) hi rfl rfl rfl rfl ht (.inl ⟨e, ht⟩) hes hby hz rfl rfl h0 h1 hzc (by decide) (fun h => (by cases h)) he
  simp only [execOp, resolve, invoke, builtin, Sem.run_bind, Sem.run_pure, Result.andThen_ok, List.map_toArray, List.map_cons, List.map_nil, Act.eval] at h1
  cases hrun : (Builtin.append_ #[t, t] t #[u, v]).run P w with
  | ok y w1 =>
    have h1' : ((Builtin.append_ #[t, t] t #[u, v]).run P w).andThen (fun a w' => Result.ok (Next.value a) w') = .ok x w' := h1
    rw [hrun] at h1'
    simp only [Result.andThen_ok, Result.ok.injEq] at h1'
    obtain ⟨rfl, rfl⟩ := h1'
    simp only [nextVal, Option.some.injEq] at h2
    subst h2
    exact ⟨_, _, _, rfl, h3, h4, h5⟩
  | _ =>
    have h1' : ((Builtin.append_ #[t, t] t #[u, v]).run P w).andThen (fun a w' => Result.ok (Next.value a) w') = .ok x w' := h1
    rw [hrun] at h1'
    simp [Result.andThen] at h1'

theorem ins_prim {k es by_ : Nat} {ρ : Ren} {z : Value} (ho : Open P (km k)) (L : InsOk P ρ (km k) es by_ z) (hb0 : 0 < by_) : PrimOk km P k (insF es by_) := by
  intro args σ r σ' hF
  refine ⟨ho, fun cx K w vs hi hlen hr => ?_⟩
  have hes0 := L.es0
  obtain ⟨i0, hi0, hz0, hzs, hzb⟩ := info_parts L.i9
  have hsB : sizeB P (ρ.t 9) = some es := by simp [sizeB, hi0, hzs]
  have hbB : bytesB P (ρ.t 9) = some by_ := by simp [bytesB, hi0, hzb]
  have hzB : zeroB P (ρ.t 9) = some z := by simp [zeroB, hi0, hz0]
  unfold insF at hF
  split at hF
  · rename_i s i o2 g2 es2 i2 m
    split at hF
    · rename_i y2 hm2
      split at hF
      · rename_i hq
        obtain ⟨rfl, rfl, hye2, rfl, hal2, hwr2, hmpos, hall⟩ := hq
        match vs, hlen with
        | [v0, v1, v2], _ =>
          have e1 := (hr 1 v1 _ rfl rfl).inv_sc.1
          subst e1
          have r0 := hr 0 v0 _ rfl rfl
          have r2 := hr 2 v2 _ rfl rfl
          have r2' := r2
          cases r2 with
          | ob _ _ _ _ _ c2 b2 a2 hk2 hnc2 hba2 hcs2 =>
            have ha2 : a2 = some ⟨b2, 0, none⟩ := by
              rcases hba2 with h | h
              · omega
              · rw [h, Nat.zero_mul]
            subst ha2
            subst hye2
            have hol2 : elemsOf σ (.ob o2 g2 y2.es 0 y2.xs.length) = some y2.xs := by
              simp only [elemsOf, hm2]
              rw [if_pos ⟨trivial, by omega⟩]
              simp
            have hsrc : ∀ s, srcOf σ y2.es (pa (frOf [s, .ob o2 g2 y2.es 0 y2.xs.length]) (.t 1)) = some y2.xs := fun s => hol2
            have hne : y2.xs.isEmpty = false := by
              cases hx : y2.xs with
              | nil => rw [hx] at hmpos; simp at hmpos
              | cons => rfl
            split at hF
            · -- nothing yet
              split at hF
              · rename_i hq
                obtain ⟨rfl, hlim⟩ := hq
                simp only [Option.some.injEq, Prod.mk.injEq] at hF
                obtain ⟨rfl, rfl⟩ := hF
                cases r0 with
                | em base =>
                  obtain ⟨v', w', K', hrun, q1, q2, q3⟩ := app_run (E := fun _ _ _ => none) hi L.t24 hsB hbB hzB hes0 hb0 L.zc (.em base) r2' (by
                    simp only [evO, hsrc, Option.bind_some]
                    rw [if_pos hall]
                    simp only [pa, frOf, List.getElem?_cons_zero, Option.getD_some]
                    rw [if_pos hlim, hne]
                    rfl)
                  refine (ins_end L base 0 0 y2.xs.length c2 b2 0 v' w w' hmpos (fun _ => rfl) (Nat.le_refl _) hrun).mono ?_
                  rintro e w1 ⟨rfl, rfl⟩
                  exact ⟨_, _, rfl, q1, q2, q3⟩
              · cases hF
            · rename_i o g es1 i1 n _
              split at hF
              · rename_i y hm
                split at hF
                · rename_i hq
                  obtain ⟨⟨rfl, rfl, hye, rfl, hal, hwr⟩, h0, hin, hne2, hlim⟩ := hq
                  simp only [Option.some.injEq, Prod.mk.injEq] at hF
                  obtain ⟨rfl, rfl⟩ := hF
                  obtain ⟨i, rfl⟩ : ∃ q : Nat, i = q := ⟨i.toNat, by omega⟩
                  simp only [Int.toNat_natCast] at *
                  have hin : i ≤ y.xs.length := by omega
                  have r0' := r0
                  cases r0 with
                  | ob _ _ _ _ _ c b a hk hnc hba hcs =>
                    by_cases hend : i = y.xs.length
                    · subst hend
                      obtain ⟨v', w', K', hrun, q1, q2, q3⟩ := app_run (E := fun _ _ _ => none) hi L.t24 hsB hbB hzB hes0 hb0 L.zc r0' r2' (by
                        simp only [evO, hsrc, Option.bind_some]
                        rw [if_pos hall]
                        simp only [pa, frOf, List.getElem?_cons_zero, Option.getD_some, hm]
                        rw [if_pos ⟨hye, trivial, trivial, trivial, hal, hlim⟩])
                      refine (ins_end L a y.xs.length c y2.xs.length c2 b2 0 v' w w' hmpos (fun ha => by
                        rcases hba with h | h
                        · omega
                        · rw [ha] at h; cases h) hnc hrun).mono ?_
                      rintro e w1 ⟨rfl, rfl⟩
                      rw [List.take_length, List.drop_length, List.append_nil]
                      simp only [if_true, hwr, Bool.and_true] at q1 q2 q3
                      exact ⟨_, _, rfl, q1, q2, q3⟩
                    · have hlt : i < y.xs.length := by omega
                      have ha : a = some ⟨b, 0, none⟩ := by
                        rcases hba with h | h
                        · omega
                        · rw [h, Nat.zero_mul]
                      subst ha
                      obtain ⟨cs, d1, d2, d3, d4⟩ := obj_cells hi hm hk (by omega)
                      obtain ⟨vs2, f1, f2, f3, f4⟩ := obj_cells hi hm2 hk2 hes0
                      obtain ⟨⟨t, sz, hsh⟩, hfz⟩ := alv_shape hi hm hal hwr hk
                      obtain ⟨⟨t2, sz2, hsh2⟩, hfz2⟩ := alv_shape hi hm2 hal2 hwr2 hk2
                      have hbb : b2 ≠ b := by
                        rintro rfl
                        exact hne2 (hi.dis _ _ _ _ _ _ _ hm hal hk hm2 hal2 hk2)
                      rw [hye] at d1 d4
                      have hsub : (y.xs.length - i) * y2.es = y.xs.length * y2.es - i * y2.es := Nat.sub_mul _ _ _
                      have hie : i * y2.es ≤ y.xs.length * y2.es := Nat.mul_le_mul_right _ (by omega)
                      have him : (i + y2.xs.length) * y2.es = i * y2.es + y2.xs.length * y2.es := Nat.add_mul _ _ _
                      have hnm : (y.xs.length + y2.xs.length) * y2.es = y.xs.length * y2.es + y2.xs.length * y2.es := Nat.add_mul _ _ _
                      have hbyle : y.xs.length + y2.xs.length ≤ (y.xs.length + y2.xs.length) * by_ := Nat.le_mul_of_pos_right _ hb0
                      have hdrop : (cs.drop (i * y2.es)).length = (y.xs.length - i) * y2.es := by rw [List.length_drop, d1, hsub]
                      have htake : (cs.take (i * y2.es)).length = i * y2.es := by rw [List.length_take]; omega
                      have hlast : ∀ (q t : Nat) e p, (y.xs.drop i)[q]? = some e → (cellsOf e)[t]? = some p → ∃ u, (cs.drop (i * y2.es))[q * y2.es + t]? = some u ∧ RepS km cx K σ w u p := fun q t e p he hp => by
                        rw [List.getElem?_drop] at he
                        obtain ⟨u, u1, u2⟩ := d4 (i + q) t e p he hp
                        refine ⟨u, ?_, u2⟩
                        rw [List.getElem?_drop, ← u1]
                        congr 1
                        rw [Nat.add_mul]; omega
                      have hzlen : ∀ (q : Nat) e, (y2.xs ++ y.xs.drop i)[q]? = some e → (cellsOf e).length = y2.es := fun q e he => by
                        by_cases hq : q < y2.xs.length
                        · rw [List.getElem?_append_left hq] at he
                          exact all_len hall q e he
                        · rw [List.getElem?_append_right (by omega), List.getElem?_drop] at he
                          obtain ⟨b', _, hc⟩ := hi.dom _ _ _ hm
                          rw [← hye]
                          exact hc.len _ _ he
                      have hzrep : ∀ (q t : Nat) e p, (y2.xs ++ y.xs.drop i)[q]? = some e → (cellsOf e)[t]? = some p → ∃ u, (vs2 ++ cs.drop (i * y2.es))[q * y2.es + t]? = some u ∧ RepS km cx K σ w u p :=
                        rowsL (Q := fun u p => RepS km cx K σ w u p) f1 f4 hlast
                      by_cases hroom : y.xs.length + y2.xs.length ≤ c
                      · have hsp : ∀ j, j < (y.xs.length + y2.xs.length) * y2.es → (w.cell? ⟨b, j, none⟩).isSome = true := fun j hj => hcs j (by
                          rw [Nat.zero_add]
                          exact Nat.lt_of_lt_of_le hj (Nat.mul_le_mul_right _ hroom))
                        refine (ins_shift L b y.xs.length c i b2 0 y2.xs.length c2 cs vs2 w hlt hmpos hroom (by omega) hbb d1 f1 d3 hsp (fun j _ => hfz j) (fun j v hj => by rw [Nat.zero_add]; exact f3 j v hj) d2 f2 t2 t sz2 sz hsh2 hsh
                          (shape_pos hsh (hsp 0 (Nat.mul_pos (by omega) hes0))) (hfz2 _) (hfz2 _)).mono ?_
                        rintro e w' ⟨rfl, rfl⟩
                        have hw : (w.drew.setCells b ((i + y2.xs.length) * y2.es) (cs.drop (i * y2.es))).setCells b (i * y2.es) vs2 = w.drew.setCells b (i * y2.es) (vs2 ++ cs.drop (i * y2.es)) := by
                          rw [setCells_comm _ _ _ _ _ _ (.inl (by omega)), setCells_app, f1, him]
                        rw [hw]
                        obtain ⟨g1, g2⟩ := inv_grow hi (Below.refl w.heap.size w).drew
                        have hredo := inv_redo (s := 25) (zs := y2.xs ++ y.xs.drop i) (vs := vs2 ++ cs.drop (i * y2.es)) g1 (by unfold Plain; omega) hm hal hwr hk (i := i) (by omega)
                          (fun k hk3 => by
                            rw [List.length_append, hdrop, f1] at hk3
                            rw [hye]
                            exact hsp _ (by omega))
                          (fun v hv => by
                            rcases List.mem_append.1 hv with h | h
                            · exact f2 v h
                            · exact d2 v (List.mem_of_mem_drop h))
                          (fun q e he => by rw [hye]; exact hzlen q e he)
                          (fun q t e p he hp => by
                            obtain ⟨u, u1, u2⟩ := hzrep q t e p he hp
                            rw [hye]
                            exact ⟨u, u1, g2.rep u2⟩)
                        rw [hye] at hredo
                        obtain ⟨h1, h2⟩ := hredo
                        refine ⟨_, _, rfl, ?_, h1, g2.trans h2⟩
                        refine .ob 25 (σ.c 25) y2.es 0 _ c b _ Kput_new hroom (.inr (by rw [Nat.zero_mul])) fun q hq => ?_
                        exact (g2.trans h2).some_ _ (hcs q hq)
                      · refine (ins_grow L b y.xs.length c i b2 0 y2.xs.length c2 cs vs2 w hlt hmpos hnc (by omega) hb0 (by omega) d1 f1 d3 (fun j v hj => by rw [Nat.zero_add]; exact f3 j v hj) d2 f2).mono ?_
                        rintro e w' ⟨rfl, rfl⟩
                        obtain ⟨G, hG⟩ : ∃ G, G = grownCap w (y.xs.length + y2.xs.length) c (ρ.t 9) := ⟨_, rfl⟩
                        have hGn : y.xs.length + y2.xs.length ≤ G := by rw [hG]; exact grownCap_ge w _ _ _
                        rw [← hG]
                        generalize hA : ((cs.take (i * y2.es)).toArray ++ Builtin.zeroCells z.cells (y.xs.length + y2.xs.length - i) ++ Builtin.zeroCells z.cells (G - (y.xs.length + y2.xs.length))) = A
                        have hAs : A.size = G * y2.es := by
                          rw [← hA, Array.size_append, Array.size_append, zc_size L.zc, zc_size L.zc, List.size_toArray, htake]
                          have e1 : i * y2.es + (y.xs.length + y2.xs.length - i) * y2.es = (y.xs.length + y2.xs.length) * y2.es := by
                            rw [← Nat.add_mul]; congr 1; omega
                          rw [e1, ← Nat.add_mul]; congr 1; omega
                        have hA1 : ∀ j, j < i * y2.es → A[j]? = cs[j]? := fun j hj => by
                          rw [← hA, Array.append_assoc, Array.getElem?_append_left (by simp; omega)]
                          simp only [List.getElem?_toArray]
                          rw [List.getElem?_take, if_pos hj]
                        have hGe : (y.xs.length + y2.xs.length) * y2.es ≤ G * y2.es := Nat.mul_le_mul_right _ hGn
                        have hw : ((((w.alloc (.cells A (ρ.t 9))).drew.setCells w.heap.size (i * y2.es) vs2).drew).setCells w.heap.size ((i + y2.xs.length) * y2.es) (cs.drop (i * y2.es))) =
                            w.drew.drew.alloc (.cells (putA A (i * y2.es) (vs2 ++ cs.drop (i * y2.es))) (ρ.t 9)) := by
                          rw [drew_setCells, him, ← f1, ← setCells_app]
                          exact alloc_setCells (ρ.t 9) _ w.drew.drew A (i * y2.es)
                        rw [hw]
                        obtain ⟨g1, g2⟩ := inv_weaken (σ' := σ.put o g none) hi rfl (fun o g x' hx => by
                          simp only [St.put] at hx
                          split at hx
                          · cases hx
                          · exact ⟨x', hx, rfl, rfl, id, id⟩)
                        have hnl : (vs2 ++ cs.drop (i * y2.es)).length = y2.xs.length * y2.es + (y.xs.length * y2.es - i * y2.es) := by rw [List.length_append, f1, hdrop, hsub]
                        have hrow := row_done' (s := 25) (xs := y.xs.take i ++ (y2.xs ++ y.xs.drop i)) (cells := putA A (i * y2.es) (vs2 ++ cs.drop (i * y2.es))) (es := y2.es) (w1 := w.drew.drew) (e := ρ.t 9) (cap := G) (wr := true) ⟨by decide, fun h => (by cases h)⟩ g1 ⟨rfl, (Below.refl _ _).drew.drew⟩
                          ⟨fun q e he => by
                            by_cases hq : q < (y.xs.take i).length
                            · rw [List.getElem?_append_left hq, List.getElem?_take] at he
                              split at he
                              · obtain ⟨b', _, hc⟩ := hi.dom _ _ _ hm
                                rw [← hye]
                                exact hc.len _ _ he
                              · cases he
                            · rw [List.getElem?_append_right (by omega)] at he
                              exact hzlen _ _ he,
                           fun q t e p he hp => by
                            have hel : (cellsOf e).length = y2.es := by
                              by_cases hq : q < (y.xs.take i).length
                              · rw [List.getElem?_append_left hq, List.getElem?_take] at he
                                split at he
                                · obtain ⟨b', _, hc⟩ := hi.dom _ _ _ hm
                                  rw [← hye]
                                  exact hc.len _ _ he
                                · cases he
                              · rw [List.getElem?_append_right (by omega)] at he
                                exact hzlen _ _ he
                            have htl : t < y2.es := by rw [← hel]; exact (List.getElem?_eq_some_iff.1 hp).1
                            obtain ⟨u, u1, u2, u3⟩ := rowsL (Q := fun u p => u.oneCell' = true ∧ RepS km cx K σ w u p) (olds := cs.take (i * y2.es)) (news := vs2 ++ cs.drop (i * y2.es)) (xs := y.xs.take i) (ys := y2.xs ++ y.xs.drop i) (by rw [htake, List.length_take, Nat.min_eq_left (by omega)])
                              (fun q t e p he hp => by
                                rw [List.getElem?_take] at he
                                split at he
                                · rename_i hqi
                                  obtain ⟨u, u1, u2⟩ := d4 q t e p he hp
                                  refine ⟨u, ?_, d2 u (List.mem_of_getElem? u1), u2⟩
                                  have hel : (cellsOf e).length = y2.es := by
                                    obtain ⟨b', _, hc⟩ := hi.dom _ _ _ hm
                                    rw [← hye]
                                    exact hc.len _ _ he
                                  have htl : t < y2.es := by rw [← hel]; exact (List.getElem?_eq_some_iff.1 hp).1
                                  have : (q + 1) * y2.es ≤ i * y2.es := Nat.mul_le_mul_right _ hqi
                                  rw [Nat.add_mul] at this
                                  rw [List.getElem?_take, if_pos (by omega)]
                                  exact u1
                                · cases he)
                              (fun q t e p he hp => by
                                obtain ⟨u, u1, u2⟩ := hzrep q t e p he hp
                                refine ⟨u, u1, ?_, u2⟩
                                rcases List.mem_append.1 (List.mem_of_getElem? u1) with h | h
                                · exact f2 u h
                                · exact d2 u (List.mem_of_mem_drop h)) q t e p he hp
                            refine ⟨u, ?_, u2, g2.rep u3⟩
                            rw [← u1]
                            rw [putA_get _ _ _ _ (by omega)]
                            by_cases hj : i * y2.es ≤ q * y2.es + t
                            · have hlt2 : q * y2.es + t < i * y2.es + (vs2 ++ cs.drop (i * y2.es)).length := by
                                have hl := (List.getElem?_eq_some_iff.1 u1).1
                                rw [List.length_append, htake] at hl
                                exact hl
                              rw [if_pos ⟨hj, hlt2⟩, List.getElem?_append_right (l₁ := cs.take (i * y2.es)) (by omega), htake]
                            · rw [if_neg (by omega), hA1 _ (by omega), List.getElem?_append_left (l₁ := cs.take (i * y2.es)) (by omega), List.getElem?_take, if_pos (by omega)]⟩
                          (by rw [List.length_append, List.length_append, List.length_take, List.length_drop]; omega) (by rw [putA_size, hAs]; exact Nat.le_refl _)
                        have hlen2 : (y.xs.take i ++ (y2.xs ++ y.xs.drop i)).length = y.xs.length + y2.xs.length := by rw [List.length_append, List.length_append, List.length_take, List.length_drop]; omega
                        rw [hlen2] at hrow
                        obtain ⟨h1, h2, h3⟩ := hrow
                        exact ⟨_, _, rfl, h3, h1, g2.trans h2⟩
                · cases hF
              · cases hF
            · cases hF
      · cases hF
    · cases hF
  · cases hF
end
end Go.Proofs.YtcpgkdaicglogaaGreatDoorPv
