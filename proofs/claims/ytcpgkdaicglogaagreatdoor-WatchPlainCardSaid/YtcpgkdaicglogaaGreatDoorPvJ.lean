/-
Structs, arrays and slices that are built of parts; conversions; makeSlice.
-/
import Derived.Test.YtcpgkdaicglogaaGreatDoorPvI
import Derived.Great.BuildSlice
import Derived.Laws.IdiomStrings
import Derived.Laws.BytesArg
import Derived.Laws.MakeOwn
import Derived.Laws.AppendOwn
namespace Go.Proofs.YtcpgkdaicglogaaGreatDoorPv
open Go Go.RowKit

section
variable {km : Km} {P : Program} {A : Ann} {cx : Cx km} {K : Nat → Nat → Option Nat} {σ σ' : St} {w : World} {E : Ev} {s : Nat} {fr : Fr} {a : Act} {o : Oper} {po : PO} {r : PV}

/-- Cells that stand for what is told of them. -/
def RepA (km : Km) (L : Addr → Option Value) (S : Addr → Prop) (K : Nat → Nat → Option Nat) (cs : Array Value) (ps : List PV) : Prop :=
  cs.size = ps.length ∧ ∀ (j : Nat) q, ps[j]? = some q → ∃ u, cs[j]? = some u ∧ u.oneCell' = true ∧ Rep km L S K u q

theorem RepA.agg {L : Addr → Option Value} {S : Addr → Prop} {cs : Array Value} {ps : List PV} (h : RepA km L S K cs ps) : Rep km L S K (.agg cs) (.agg ps) := by
  obtain ⟨h1, h2⟩ := h
  have := Rep.agg (km := km) (L := L) (S := S) (K := K) cs.toList ps (by simpa using h1) (fun v hv => by
      obtain ⟨k, hk⟩ := List.getElem?_of_mem hv
      have hlt := (List.getElem?_eq_some_iff.1 hk).1
      obtain ⟨u, c1, c2, _⟩ := h2 k _ (List.getElem?_eq_getElem (show k < ps.length by simp at hlt; omega))
      have : cs[k]? = some v := by simpa using hk
      rw [this] at c1; simp only [Option.some.injEq] at c1; rw [c1]; exact c2)
    (fun i v p hv hp => by
      obtain ⟨u, c1, _, c3⟩ := h2 i p hp
      have : cs[i]? = some v := by simpa using hv
      rw [this] at c1; simp only [Option.some.injEq] at c1; rw [c1]; exact c3)
  simpa using this

theorem fold_at {off : Nat} {v : Value} {cells : Array Value} : (v.cells.zipIdx.foldl (fun cs (c, j) => cs.setIfInBounds (off + j) c) cells).size = cells.size ∧
    ∀ k, (v.cells.zipIdx.foldl (fun cs (c, j) => cs.setIfInBounds (off + j) c) cells)[k]? = if off ≤ k ∧ k < off + v.cells.size ∧ k < cells.size then v.cells[k - off]? else cells[k]? := by
  have h := Go.Great.foldl_set off v.cells.toList 0 cells
  have e : v.cells.zipIdx.foldl (fun cs (c, j) => cs.setIfInBounds (off + j) c) cells = (v.cells.toList.zipIdx 0).foldl (fun cs (x : Value × Nat) => cs.setIfInBounds (off + x.2) x.1) cells := by
    rw [← Array.foldl_toList]; simp
  rw [e]
  refine ⟨h.1, fun k => ?_⟩
  rw [h.2 k]
  simp

theorem part_step {L : Addr → Option Value} {S : Addr → Prop} {cells : Array Value} {cs : List PV} {off : Nat} {v : Value} {p : PV} (h : RepA km L S K cells cs) (hv : Rep km L S K v p) (hok : okc p = true) (hle : off + (cellsOf p).length ≤ cs.length) :
    RepA km L S K (v.cells.zipIdx.foldl (fun cs (c, j) => cs.setIfInBounds (off + j) c) cells) (splice cs off (cellsOf p)) := by
  obtain ⟨h1, h2⟩ := h
  obtain ⟨g1, g2⟩ := rep_cells hv hok
  obtain ⟨f1, f2⟩ := fold_at (off := off) (v := v) (cells := cells)
  refine ⟨by rw [f1, h1, splice_length hle], fun j q hq => ?_⟩
  rw [splice_get hle] at hq
  rw [f2 j]
  by_cases c1 : j < off
  · rw [if_pos c1] at hq
    rw [if_neg (by omega)]
    exact h2 j q hq
  · rw [if_neg c1] at hq
    by_cases c2 : j < off + (cellsOf p).length
    · rw [if_pos c2] at hq
      rw [if_pos (by omega)]
      exact g2 _ q hq
    · rw [if_neg c2] at hq
      rw [if_neg (by omega)]
      exact h2 j q hq

theorem fill_rep {a : Act} {fr : Fr} (hA : LinkOk km A) (hf : FrR km cx K σ w a.tmps fr) {g : Nat → Option (Nat × Nat)} : ∀ (l : List (Nat × Operand)) (l' : List (Nat × Nat × PA)) (cells : Array Value) (cs r : List PV), compG A g l = some l' →
    fillP cs (l'.map fun (o, n, x) => (o, n, pa fr x)) = some r → RepA km w.cell? (Stab cx K σ w) K cells cs → ∃ cells', Instr.fill g cells (l.map fun (i, x) => (i, a.eval x)) = some cells' ∧ RepA km w.cell? (Stab cx K σ w) K cells' r
  | [], l', cells, cs, r, h1, h2, h3 => by
    simp [compG] at h1; subst h1
    simp [fillP] at h2; subst h2
    exact ⟨cells, rfl, h3⟩
  | (i, x) :: l, l', cells, cs, r, h1, h2, h3 => by
    simp only [compG] at h1
    obtain ⟨⟨off, sz⟩, hq, h1⟩ := Option.bind_eq_some_iff.1 h1
    obtain ⟨x', hx, h1⟩ := Option.bind_eq_some_iff.1 h1
    obtain ⟨m, hm, rfl⟩ := Option.map_eq_some_iff.1 h1
    simp only [List.map_cons, fillP] at h2
    split at h2
    · rename_i hc
      obtain ⟨q1, q2, q3⟩ := hc
      have rx := opnd_rep hA hf hx
      obtain ⟨g1, g2⟩ := rep_cells rx q3
      have hst := part_step (off := off) h3 rx q3 (by rw [q1]; exact q2)
      obtain ⟨cells', e1, e2⟩ := fill_rep hA hf l m _ _ r hm h2 hst
      refine ⟨cells', ?_, e2⟩
      simp only [List.map_cons, Instr.fill, hq]
      rw [if_neg]
      · exact e1
      · have := h3.1
        simp; omega
    · cases h2

theorem d_build {t : TypeId} {parts : Array (Nat × Operand)} (hA : LinkOk km A) (hf : FrR km cx K σ w a.tmps fr) (hi : Inv km cx K σ w) (ho : o.op = .build t parts) (hc : compO P A o = some po) (he : evO E s fr σ po = some (r, σ')) : OpDone km P cx K σ w o a r σ' := by
  simp only [compO, ho] at hc
  obtain ⟨z, hz, hc⟩ := Option.bind_eq_some_iff.1 hc
  obtain ⟨z', hz', hc⟩ := Option.bind_eq_some_iff.1 hc
  unfold pickZero at hz'
  split at hz'
  · rename_i hok
    simp only [Option.some.injEq] at hz'
    subst hz'
    obtain ⟨it, hit, hiz⟩ := Option.bind_eq_some_iff.1 hz
    have hza : RepA km w.cell? (Stab cx K σ w) K z.cells (cellsOf (pv z)) := rep_cells (rep_pv hok) (okc_pv hok)
    have fin : ∀ g l', compG A g parts.toList = some l' → P.built t (parts.toList.map fun (i, x) => (i, a.eval x)) = Instr.fill g z.cells (parts.toList.map fun (i, x) => (i, a.eval x)) → po = .build z l' → OpDone km P cx K σ w o a r σ' := by
      intro g l' hl hb hpo
      subst hpo
      simp only [evO] at he
      obtain ⟨cs, hcs, he⟩ := Option.map_eq_some_iff.1 he
      simp only [Prod.mk.injEq] at he
      obtain ⟨rfl, rfl⟩ := he
      obtain ⟨cells', e1, e2⟩ := fill_rep hA hf parts.toList l' z.cells _ cs hl hcs hza
      refine OpDone.val (v := .agg cells') hi ?_ e2.agg
      have hr := run_build (P := P) w t (parts.map fun (i, x) => (i, a.eval x)) cells' (by rw [Array.toList_map, hb]; exact e1)
      simp only [execOp, ho, Sem.run_bind, hr, Result.andThen_ok]
      rfl
    split at hc
    · rename_i fs ht
      obtain ⟨pl, hpl, hc⟩ := Option.bind_eq_some_iff.1 hc
      obtain ⟨l', hl, rfl⟩ := Option.map_eq_some_iff.1 hc
      unfold placesB at hpl
      exact fin _ l' hl (by unfold Program.built; simp only [hit, ht, hiz, hpl]; simp) rfl
    · rename_i n e ht
      obtain ⟨es, hes, hc⟩ := Option.bind_eq_some_iff.1 hc
      obtain ⟨l', hl, rfl⟩ := Option.map_eq_some_iff.1 hc
      obtain ⟨ie, hie, rfl⟩ := Option.map_eq_some_iff.1 hes
      exact fin _ l' hl (by unfold Program.built; simp only [hit, ht, hiz, hie]) rfl
    · cases hc
  · cases hz'

/-- Cells, element by element. -/
def RepE (km : Km) (L : Addr → Option Value) (S : Addr → Prop) (K : Nat → Nat → Option Nat) (es : Nat) (cells : Array Value) (xs : List PV) : Prop :=
  cells.size = xs.length * es ∧ (∀ (i : Nat) e, xs[i]? = some e → (cellsOf e).length = es) ∧ ∀ (i j : Nat) e p, xs[i]? = some e → (cellsOf e)[j]? = some p → ∃ u, cells[i * es + j]? = some u ∧ u.oneCell' = true ∧ Rep km L S K u p

theorem fillE_rep {a : Act} {fr : Fr} {es : Nat} (hA : LinkOk km A) (hf : FrR km cx K σ w a.tmps fr) : ∀ (l : List (Nat × Operand)) (l' : List (Nat × PA)) (cells : Array Value) (xs r : List PV), compI A l = some l' →
    fillE es xs (l'.map fun (i, x) => (i, pa fr x)) = some r → RepE km w.cell? (Stab cx K σ w) K es cells xs → ∃ cells', Instr.fill (fun i => some (i * es, es)) cells (l.map fun (i, x) => (i, a.eval x)) = some cells' ∧ RepE km w.cell? (Stab cx K σ w) K es cells' r ∧ r.length = xs.length
  | [], l', cells, xs, r, h1, h2, h3 => by
    simp [compI] at h1; subst h1
    simp [fillE] at h2; subst h2
    exact ⟨cells, rfl, h3, rfl⟩
  | (i, x) :: l, l', cells, xs, r, h1, h2, h3 => by
    simp only [compI] at h1
    obtain ⟨x', hx, h1⟩ := Option.bind_eq_some_iff.1 h1
    obtain ⟨m, hm, rfl⟩ := Option.map_eq_some_iff.1 h1
    simp only [List.map_cons, fillE] at h2
    split at h2
    · rename_i hc
      obtain ⟨q1, q2, q3⟩ := hc
      have rx := opnd_rep hA hf hx
      obtain ⟨g1, g2⟩ := rep_cells rx q3
      obtain ⟨f1, f2⟩ := fold_at (off := i * es) (v := a.eval x) (cells := cells)
      obtain ⟨s1, s2, s3⟩ := h3
      have hle : i * es + es ≤ xs.length * es := by
        have : (i + 1) * es ≤ xs.length * es := Nat.mul_le_mul_right _ q2
        rw [Nat.add_mul] at this; omega
      have hlen : ∀ (i2 : Nat) e, (xs.set i (pa fr x'))[i2]? = some e → (cellsOf e).length = es := by
        intro i2 e he2
        rw [List.getElem?_set] at he2
        split at he2
        · simp only [Option.some.injEq] at he2; rw [← he2]; exact q1
        · exact s2 i2 e he2
      obtain ⟨cells', e1, e2, e3⟩ := fillE_rep hA hf l m _ _ r hm h2 ⟨by rw [f1, s1]; simp, hlen, fun i2 j e p he2 hp => by
        have hj : j < es := by rw [← hlen i2 e he2]; exact (List.getElem?_eq_some_iff.1 hp).1
        rw [f2]
        rw [List.getElem?_set] at he2
        split at he2
        · rename_i hii
          subst hii
          simp only [Option.some.injEq] at he2
          subst he2
          rw [if_pos (by omega), show i * es + j - i * es = j by omega]
          exact g2 j p hp
        · rename_i hii
          rw [if_neg]
          · exact s3 i2 j e p he2 hp
          · rintro ⟨h1, h2, _⟩
            rcases Nat.lt_or_gt_of_ne hii with h | h
            · have : (i + 1) * es ≤ i2 * es := Nat.mul_le_mul_right _ h
              rw [Nat.add_mul] at this; omega
            · have : (i2 + 1) * es ≤ i * es := Nat.mul_le_mul_right _ h
              rw [Nat.add_mul] at this; omega⟩
      refine ⟨cells', ?_, e2, by rw [e3]; simp⟩
      simp only [List.map_cons, Instr.fill]
      rw [if_neg]
      · exact e1
      · simp; omega
    · cases h2

theorem zeros_rep {z : Value} {es n : Nat} {L : Addr → Option Value} {S : Addr → Prop} (hok : constOk z = true) (hs : z.cells.size = es) : RepE km L S K es ((Array.range (n * es)).map (z.cells[· % z.cells.size]!)) (List.replicate n (pv z)) := by
  obtain ⟨h1, h2⟩ := rep_cells (km := km) (L := L) (S := S) (K := K) (rep_pv hok) (okc_pv hok)
  refine ⟨by simp, fun i e h => ?_, fun i j e p h hp => ?_⟩
  · rw [List.getElem?_replicate] at h
    split at h
    · simp only [Option.some.injEq] at h; rw [← h, ← h1]; exact hs
    · cases h
  · rw [List.getElem?_replicate] at h
    split at h
    · rename_i hi
      simp only [Option.some.injEq] at h
      subst h
      have hj : j < es := by rw [← hs, h1]; exact (List.getElem?_eq_some_iff.1 hp).1
      obtain ⟨u, c1, c2, c3⟩ := h2 j p hp
      refine ⟨u, ?_, c2, c3⟩
      have hlt : i * es + j < n * es := by
        have : (i + 1) * es ≤ n * es := Nat.mul_le_mul_right _ hi
        rw [Nat.add_mul] at this; omega
      have hm : (i * es + j) % es = j := by rw [Nat.mul_comm, Nat.mul_add_mod]; exact Nat.mod_eq_of_lt hj
      simp [hs, hlt, hm]
      rw [getElem!_def, c1]
    · cases h

/-- A new row of one's own. -/
theorem row_done {xs : List PV} {cells : Array Value} {es : Nat} {w1 : World} {e : TypeId} {cap : Nat} (hs : Plain s) (hi : Inv km cx K σ w) (hw : w1.heap = w.heap ∧ Below w.heap.size w w1) (hr : RepE km w.cell? (Stab cx K σ w) K es cells xs ∨ (xs.length * es ≤ cells.size ∧ (∀ (i : Nat) e, xs[i]? = some e → (cellsOf e).length = es) ∧ ∀ (i j : Nat) e p, xs[i]? = some e → (cellsOf e)[j]? = some p → ∃ u, cells[i * es + j]? = some u ∧ u.oneCell' = true ∧ RepS km cx K σ w u p))
    (hcap : xs.length ≤ cap) (hsz : cap * es ≤ cells.size)
    (hrun : (execOp a.eval o).run P w = .ok (.value (.slice (some ⟨w.heap.size, 0, none⟩) xs.length cap)) (w1.alloc (.cells cells e))) :
    OpDone km P cx K σ w o a (.ob s (σ.c s) es 0 xs.length) (σ.new s ⟨es, xs, true, true⟩) := by
  have hh : w1.heap.size = w.heap.size := by rw [hw.1]
  have hb : Below w.heap.size w (w1.alloc (.cells cells e)) := hw.2.alloc (by rw [hh]; exact Nat.le_refl _) _
  have hr' : (∀ (i : Nat) e, xs[i]? = some e → (cellsOf e).length = es) ∧ ∀ (i j : Nat) e p, xs[i]? = some e → (cellsOf e)[j]? = some p → ∃ u, cells[i * es + j]? = some u ∧ u.oneCell' = true ∧ RepS km cx K σ w u p := by
    rcases hr with h | h
    · exact ⟨h.2.1, h.2.2⟩
    · exact ⟨h.2.1, h.2.2⟩
  obtain ⟨h1, h2⟩ := inv_new (s := s) (b0 := w.heap.size) (x := ⟨es, xs, true, true⟩) hi hb (Nat.le_refl _) (by rw [size_alloc, hh]; omega)
    hr'.1 (fun i j e p he hp => by
      obtain ⟨u, q1, q2, q3⟩ := hr'.2 i j e p he hp
      exact ⟨u, by rw [← hh, cell_alloc_self]; exact q1, q2, q3⟩)
    ⟨⟨_, _, _, by rw [← hh]; exact heap_alloc_self w1 _⟩, fun off => by rw [← hh]; exact frozen_alloc_self w1 _ _ off⟩ ⟨rfl, rfl⟩ hs.site
  refine ⟨_, _, _, _, hrun, rfl, ?_, h1, h2⟩
  refine .ob s (σ.c s) es 0 xs.length cap w.heap.size _ Kput_new hcap (.inr (by simp)) fun j hj => ?_
  have hj' : j < cells.size := by
    have : (0 + cap) * es = cap * es := by rw [Nat.zero_add]
    omega
  rw [← hh, cell_alloc_self, Array.getElem?_eq_getElem hj']; rfl

theorem d_bsl {t : TypeId} {n : Nat} {parts : Array (Nat × Operand)} (hs : Plain s) (hA : LinkOk km A) (hf : FrR km cx K σ w a.tmps fr) (hi : Inv km cx K σ w) (ho : o.op = .buildSlice t n parts) (hc : compO P A o = some po) (he : evO E s fr σ po = some (r, σ')) : OpDone km P cx K σ w o a r σ' := by
  simp only [compO, ho] at hc
  split at hc
  · rename_i e ht
    obtain ⟨es, hes, hc⟩ := Option.bind_eq_some_iff.1 hc
    obtain ⟨z, hz, hc⟩ := Option.bind_eq_some_iff.1 hc
    obtain ⟨z', hz', hc⟩ := Option.bind_eq_some_iff.1 hc
    unfold pickZero at hz'
    split at hz'
    · rename_i hok
      simp only [Option.some.injEq] at hz'
      subst hz'
      obtain ⟨l', hl, hc⟩ := Option.bind_eq_some_iff.1 hc
      split at hc
      · rename_i hq
        obtain ⟨q1, q2, q3⟩ := hq
        simp only [Option.some.injEq] at hc
        subst hc
        by_cases hnone : (n == 0 && l'.isEmpty) = true
        · rw [if_pos (by simpa using hnone)] at he
          simp only [evO, Option.some.injEq, Prod.mk.injEq] at he
          obtain ⟨rfl, rfl⟩ := he
          simp only [Bool.and_eq_true, beq_iff_eq, List.isEmpty_iff] at hnone
          obtain ⟨rfl, rfl⟩ := hnone
          have hp : parts.toList = [] := by
            cases hpl : parts.toList with
            | nil => rfl
            | cons p rest =>
              exfalso
              rw [hpl] at hl
              obtain ⟨i, x⟩ := p
              simp only [compI] at hl
              obtain ⟨x', hx, hl⟩ := Option.bind_eq_some_iff.1 hl
              obtain ⟨m, hm, hl⟩ := Option.map_eq_some_iff.1 hl
              cases hl
          have hp' : parts = #[] := by simpa using congrArg List.toArray hp
          subst hp'
          obtain ⟨ie, hie, rfl⟩ := Option.map_eq_some_iff.1 hes
          have hrun : (Instr.buildSlice t 0 ((#[] : Array (Nat × Operand)).map fun (i, x) => (i, a.eval x))).run P w = .ok (.slice (some ⟨w.heap.size, 0, none⟩) 0 0) (w.alloc (.cells #[] e)) := by
            simp [Instr.buildSlice, run_underlying ht, run_size (sizeB_of hie), Instr.fill, newRow, Array.range_zero']
          obtain ⟨g1, g2⟩ := inv_grow hi ((Below.refl _ w).alloc (Nat.le_refl _) (.cells #[] e))
          exact ⟨_, _, _, K, by simp only [execOp, ho, Sem.run_bind, hrun, Result.andThen_ok]; rfl, rfl, .em _, g1, g2⟩
        rw [if_neg (by simpa using hnone)] at he
        simp only [evO] at he
        obtain ⟨xs, hxs, he⟩ := Option.map_eq_some_iff.1 he
        simp only [Prod.mk.injEq] at he
        obtain ⟨rfl, rfl⟩ := he
        obtain ⟨cells', e1, e2, e3⟩ := fillE_rep hA hf parts.toList l' _ _ xs hl hxs (zeros_rep (km := km) (K := K) (L := w.cell?) (S := Stab cx K σ w) (n := n) hok q3)
        have hxl : xs.length = n := by rw [e3]; simp
        obtain ⟨ie, hie, rfl⟩ := Option.map_eq_some_iff.1 hes
        have hiz : ie.zero = some z := by simpa [zeroB, hie] using hz
        have hrun : (Instr.buildSlice t n (parts.map fun (i, x) => (i, a.eval x))).run P w = .ok (.slice (some ⟨w.heap.size, 0, none⟩) n n) (w.alloc (.cells cells' e)) := by
          have hsm : ¬ (n * ie.size > 2 ^ 24) := by omega
          rcases Nat.eq_zero_or_pos n with hn | hn
          · subst hn
            have hp : parts.toList = [] := by
              cases hpl : parts.toList with
              | nil => rfl
              | cons p rest =>
                exfalso
                rw [hpl] at hl
                obtain ⟨i, x⟩ := p
                simp only [compI] at hl
                obtain ⟨x', hx, hl⟩ := Option.bind_eq_some_iff.1 hl
                obtain ⟨m, hm, rfl⟩ := Option.map_eq_some_iff.1 hl
                simp [fillE] at hxs
            have hp' : parts = #[] := by simpa using congrArg List.toArray hp
            subst hp'
            simp [Instr.fill] at e1
            subst e1
            simp [Instr.buildSlice, run_underlying ht, run_size (sizeB_of hie), Instr.fill, newRow, Array.range_zero']
          · have hpos : ¬ (n * ie.size = 0) := by
              have := Nat.mul_pos hn q1
              omega
            exact run_buildSlice w t e n _ cells' ie z ht hie hiz hsm hpos (by rw [Array.toList_map]; exact e1)
        have := row_done (s := s) (P := P) (o := o) (a := a) (xs := xs) (cells := cells') (es := ie.size) (w1 := w) (e := e) (cap := n) hs hi ⟨rfl, Below.refl _ _⟩ (.inl e2) (by omega) (by rw [e2.1, hxl]; exact Nat.le_refl _) (by
          simp only [execOp, ho, Sem.run_bind, hrun, Result.andThen_ok, hxl]
          rfl)
        rw [hxl] at this
        exact this
      · cases hc
    · cases hz'
  · cases hc

end
end Go.Proofs.YtcpgkdaicglogaaGreatDoorPv
