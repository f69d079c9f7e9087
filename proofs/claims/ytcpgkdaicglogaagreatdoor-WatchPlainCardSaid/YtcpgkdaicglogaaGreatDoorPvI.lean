/-
Operations that write.
-/
import Derived.Test.YtcpgkdaicglogaaGreatDoorPvH
namespace Go.Proofs.YtcpgkdaicglogaaGreatDoorPv
open Go Go.RowKit

section
variable {km : Km} {P : Program} {A : Ann} {cx : Cx km} {K : Nat → Nat → Option Nat} {σ σ' : St} {w : World} {E : Ev} {s : Nat} {fr : Fr} {a : Act} {o : Oper} {po : PO} {r : PV}

theorem setCells_size (b : Nat) : ∀ (vs : List Value) (o : Nat) (w : World), (w.setCells b o vs).heap.size = w.heap.size
  | [], _, _ => rfl
  | v :: r, o, w => by rw [World.setCells, setCells_size b r]; simp [World.setCell]

theorem setCells_below {B b : Nat} {w0 : World} (hb : B ≤ b) : ∀ (vs : List Value) (o : Nat) (w : World), Below B w0 w → Below B w0 (w.setCells b o vs)
  | [], _, _, h => h
  | v :: r, o, w, h => by rw [World.setCells]; exact setCells_below hb r _ _ (h.setCell (p := ⟨b, o, none⟩) hb v)

theorem setCells_heap (b : Nat) : ∀ (vs : List Value) (o : Nat) (w : World) (k : Nat) (c : Array Value) (t : TypeId) (fr : Nat × Nat), w.heap[k]? = some (.cells c t fr) → ∃ c', (w.setCells b o vs).heap[k]? = some (.cells c' t fr)
  | [], _, _, _, c, _, _, h => ⟨c, h⟩
  | v :: r, o, w, k, c, t, fr, h => by
    rw [World.setCells]
    by_cases hk : k = b
    · subst hk
      refine setCells_heap k r _ _ k (if (none : Option Nat).isSome = true then c else c.setIfInBounds o v) t fr ?_
      simp only [World.setCell, Array.getElem?_modify, if_true, h, Option.map_some]
    · exact setCells_heap b r _ _ k c t fr (by rw [Below.heap_setCell _ _ _ _ (by simpa using hk)]; exact h)

theorem setCells_other (b : Nat) : ∀ (vs : List Value) (o : Nat) (w : World) (k : Nat), k ≠ b → (w.setCells b o vs).heap[k]? = w.heap[k]?
  | [], _, _, _, _ => rfl
  | v :: r, o, w, k, hk => by
    rw [World.setCells, setCells_other b r _ _ k hk]
    exact Below.heap_setCell _ _ _ _ (by simpa using hk)

theorem shape_setCells (b : Nat) : ∀ (vs : List Value) (o : Nat) (w : World) (c : Nat), (w.setCells b o vs).shape? c = w.shape? c
  | [], _, _, _ => rfl
  | v :: r, o, w, c => by
    rw [World.setCells, shape_setCells b r]
    unfold World.shape? World.setCell
    simp only [Array.getElem?_modify]
    by_cases h : b = c
    · rw [if_pos h]
      cases hc : w.heap[c]? with
      | none => rfl
      | some x => cases x <;> simp
    · rw [if_neg h]

/-- The cells of an object are there. -/
theorem obj_cell {km : Km} {cx : Cx km} {K : Nat → Nat → Option Nat} {σ : St} {w : World} {b : Nat} {x : Obj} (h : CellsAt km cx K σ w b x) {k : Nat} (hk : k < x.xs.length * x.es) : (w.cell? ⟨b, k, none⟩).isSome = true := by
  have h0 : 0 < x.es := by
    rcases Nat.eq_zero_or_pos x.es with h0 | h0
    · rw [h0] at hk; omega
    · exact h0
  have hi : k / x.es < x.xs.length := Nat.div_lt_of_lt_mul (by rw [Nat.mul_comm]; exact hk)
  have hl := h.len _ _ (List.getElem?_eq_getElem hi)
  have hj : k % x.es < (cellsOf x.xs[k / x.es]).length := by rw [hl]; exact Nat.mod_lt _ h0
  obtain ⟨v, hv, _⟩ := h.cell _ _ _ _ (List.getElem?_eq_getElem hi) (List.getElem?_eq_getElem hj)
  have : k / x.es * x.es + k % x.es = k := by rw [Nat.mul_comm]; exact Nat.div_add_mod k x.es
  rw [this] at hv
  rw [hv]; rfl

theorem cell_in_obj {x : Obj} {i j : Nat} {e p : PV} (hl : ∀ (i : Nat) e, x.xs[i]? = some e → (cellsOf e).length = x.es) (he : x.xs[i]? = some e) (hp : (cellsOf e)[j]? = some p) : i * x.es + j < x.xs.length * x.es := by
  have h1 := (List.getElem?_eq_some_iff.1 he).1
  have h2 := (List.getElem?_eq_some_iff.1 hp).1
  rw [hl i e he] at h2
  have : (i + 1) * x.es ≤ x.xs.length * x.es := Nat.mul_le_mul_right _ h1
  rw [Nat.add_mul] at this
  omega

/-- Cells of an object of one's own are written. -/
theorem inv_set (hi : Inv km cx K σ w) {o1 g1 b : Nat} {x x' : Obj} (hm : σ.m o1 g1 = some x) (hal : x.al = true) (hwr : x.wr = true) (hk : K o1 g1 = some b) (off : Nat) (vs : List Value)
    (hone : ∀ v ∈ vs, v.oneCell' = true) (hin : off + vs.length ≤ x.xs.length * x.es) (hx' : x'.es = x.es ∧ x'.al = true ∧ x'.wr = true ∧ x'.xs.length = x.xs.length)
    (hlen : ∀ (i : Nat) e, x'.xs[i]? = some e → (cellsOf e).length = x'.es)
    (hc : ∀ (i j : Nat) e p, x'.xs[i]? = some e → (cellsOf e)[j]? = some p → (off ≤ i * x.es + j ∧ ∃ v, vs[i * x.es + j - off]? = some v ∧ RepS km cx K σ w v p) ∨
      ((i * x.es + j < off ∨ off + vs.length ≤ i * x.es + j) ∧ ∃ e0, x.xs[i]? = some e0 ∧ (cellsOf e0)[j]? = some p)) :
    Inv km cx K (σ.put o1 g1 (some x')) (w.setCells b off vs) ∧ Ext cx K σ w K (σ.put o1 g1 (some x')) (w.setCells b off vs) := by
  obtain ⟨e1, e2, e3, e4⟩ := hx'
  have hkb := hi.kb _ _ _ hk
  have hnst : ∀ a, Stab cx K σ w a → a.block ≠ b := by
    intro a ha hab
    rcases ha with ⟨h1, _⟩ | ⟨_, _, h3⟩
    · omega
    · have := (h3 o1 g1 x hm hal (by rw [hab]; exact hk)).1
      rw [hwr] at this
      cases this
  have hout : ∀ a, a.block ≠ b → (w.setCells b off vs).cell? a = w.cell? a := fun a ha => World.cell?_setCells_out b vs off w a (fun h => absurd h ha)
  obtain ⟨b', hk', hcells⟩ := hi.dom _ _ _ hm
  obtain rfl : b' = b := by rw [hk] at hk'; simpa using hk'.symm
  have hinl : ∀ j (hj : j < vs.length), (w.setCells b' off vs).cell? ⟨b', off + j, none⟩ = some vs[j] := World.cell?_setCells_in b' vs off w (fun j hj => obj_cell hcells (by omega))
  have hsome : ∀ a, (w.cell? a).isSome = true → ((w.setCells b' off vs).cell? a).isSome = true := by
    intro a ha
    by_cases hab : a.block = b'
    · by_cases hsp : a.spot = none
      · by_cases hr : a.off < off ∨ off + vs.length ≤ a.off
        · rw [World.cell?_setCells_out b' vs off w a (fun _ _ => hr)]; exact ha
        · obtain ⟨ab, ao, as⟩ := a
          simp only at hab hsp hr
          subst hab hsp
          have := hinl (ao - off) (by omega)
          rw [show off + (ao - off) = ao by omega] at this
          rw [this]; rfl
      · rw [World.cell?_setCells_out b' vs off w a (fun _ h => absurd h hsp)]; exact ha
    · rw [hout a hab]; exact ha
  have hmm : ∀ o g y, (σ.put o1 g1 (some x')).m o g = some y → (o = o1 ∧ g = g1 ∧ y = x') ∨ (¬ (o = o1 ∧ g = g1) ∧ σ.m o g = some y) := by
    intro o g y h
    simp only [St.put] at h
    split at h
    · rename_i hq; simp only [Option.some.injEq] at h; exact .inl ⟨hq.1, hq.2, h.symm⟩
    · rename_i hq; exact .inr ⟨hq, h⟩
  have hst : ∀ a, Stab cx K σ w a → Stab cx K (σ.put o1 g1 (some x')) (w.setCells b' off vs) a := by
    intro a ha
    have hne := hnst a ha
    rcases ha with h1 | ⟨h1, h2, h3⟩
    · exact .inl h1
    · refine .inr ⟨h1, by rw [setCells_size]; exact h2, fun o g y hy hal' hk'' => ?_⟩
      rcases hmm o g y hy with ⟨rfl, rfl, rfl⟩ | ⟨_, hy'⟩
      · rw [hk] at hk''; simp only [Option.some.injEq] at hk''; exact absurd hk''.symm hne
      · exact h3 o g y hy' hal' hk''
  have hext : Ext cx K σ w K (σ.put o1 g1 (some x')) (w.setCells b' off vs) :=
    ⟨fun _ _ _ h => h, fun a v hs hv => by rw [hout a (hnst a hs)]; exact hv, fun a hs _ => hst a hs, hsome⟩
  refine ⟨⟨setCells_below hkb.1 vs off w hi.bel, fun o g b h => by rw [setCells_size]; exact hi.kb o g b h, hi.iss, fun o g y h => ?_, fun o g y c q1 q2 q3 => ?_, fun o g y o' g' y' c q1 q2 q3 q4 q5 q6 => ?_, fun o g c h => (hi.bld o g c h).same (shape_setCells _ _ _ _ _), fun o g l h => ?_, hi.mdis⟩, hext⟩
  · rcases hmm o g y h with ⟨rfl, rfl, rfl⟩ | ⟨hne, h'⟩
    · refine ⟨b', hk, hlen, fun i j e p he hp => ?_⟩
      rw [e1]
      rcases hc i j e p he hp with ⟨h1, v, hv, rv⟩ | ⟨h1, e0, he0, hp0⟩
      · have hj := (List.getElem?_eq_some_iff.1 hv).1
        have := hinl (i * x.es + j - off) hj
        rw [show off + (i * x.es + j - off) = i * x.es + j by omega] at this
        refine ⟨_, this, hone _ (List.getElem_mem hj), ?_, fun hf => by simp [e2, e3] at hf⟩
        have : vs[i * x.es + j - off] = v := by rw [List.getElem?_eq_getElem hj] at hv; simpa using hv
        rw [this]
        exact hext.rep rv
      · obtain ⟨v, c1, c2, c3, _⟩ := hcells.cell i j e0 p he0 hp0
        exact ⟨v, by rw [World.cell?_setCells_out b' vs off w _ (fun _ _ => h1)]; exact c1, c2, hext.rep c3, fun hf => by simp [e2, e3] at hf⟩
    · obtain ⟨c, r1, r2⟩ := hi.dom o g y h'
      refine ⟨c, r1, r2.len, fun i j e p he hp => ?_⟩
      obtain ⟨v, c1, c2, c3, c4⟩ := r2.cell i j e p he hp
      have hcb : c ≠ b' := by
        rintro rfl
        by_cases hya : y.al = true
        · exact hne (hi.dis o g y o1 g1 x c h' hya r1 hm hal hk)
        · have := hnst _ (c4 (by simp [hya]))
          exact this rfl
      exact ⟨v, by rw [hout _ hcb]; exact c1, c2, hext.rep c3, fun hf => hst _ (c4 hf)⟩
  · rcases hmm o g y q1 with ⟨rfl, rfl, rfl⟩ | ⟨hne, h'⟩
    · obtain ⟨⟨d, t, fr, h4⟩, h5⟩ := hi.alv o g x c hm hal q3
      obtain ⟨d', h6⟩ := setCells_heap b' vs off w c d t fr h4
      refine ⟨⟨d', t, fr, h6⟩, fun k hf => ?_⟩
      rw [World.frozen?_setCells] at hf
      have := (h5 k hf).1
      rw [hwr] at this; cases this
    · obtain ⟨⟨d, t, fr, h4⟩, h5⟩ := hi.alv o g y c h' q2 q3
      obtain ⟨d', h6⟩ := setCells_heap b' vs off w c d t fr h4
      exact ⟨⟨d', t, fr, h6⟩, fun k hf => h5 k (by rw [World.frozen?_setCells] at hf; exact hf)⟩
  · rcases hmm o g y q1 with ⟨rfl, rfl, rfl⟩ | ⟨hne, h'⟩
    · rcases hmm o' g' y' q4 with ⟨rfl, rfl, rfl⟩ | ⟨hne', h''⟩
      · exact ⟨rfl, rfl⟩
      · exact hi.dis _ _ _ _ _ _ _ hm hal q3 h'' q5 q6
    · rcases hmm o' g' y' q4 with ⟨rfl, rfl, rfl⟩ | ⟨hne', h''⟩
      · exact hi.dis _ _ _ _ _ _ _ h' q2 q3 hm hal q6
      · exact hi.dis _ _ _ _ _ _ _ h' q2 q3 h'' q5 q6
  · obtain ⟨c, r1, r2⟩ := hi.mdom o g l h
    refine ⟨c, r1, r2.ext hext (setCells_other _ _ _ _ _ ?_)⟩
    rintro rfl
    obtain ⟨⟨d, t, fr, h4⟩, _⟩ := hi.alv o1 g1 x c hm hal hk
    exact r2.nocell _ _ _ h4

theorem splice_get {cs vs : List PV} {j k : Nat} (hj : j + vs.length ≤ cs.length) : (splice cs j vs)[k]? = if k < j then cs[k]? else if k < j + vs.length then vs[k - j]? else cs[k]? := by
  unfold splice
  by_cases h1 : k < j
  · rw [if_pos h1, List.append_assoc, List.getElem?_append_left (by simp; omega), List.getElem?_take, if_pos h1]
  · rw [if_neg h1]
    by_cases h2 : k < j + vs.length
    · rw [if_pos h2, List.append_assoc, List.getElem?_append_right (by simp; omega), List.getElem?_append_left (by simp; omega)]
      congr 1; simp; omega
    · rw [if_neg h2, List.getElem?_append_right (by simp; omega), List.getElem?_drop]
      congr 1; simp; omega

theorem splice_length {cs vs : List PV} {j : Nat} (hj : j + vs.length ≤ cs.length) : (splice cs j vs).length = cs.length := by
  unfold splice; simp; omega

theorem d_st {t : TypeId} {x y : Operand} (hA : LinkOk km A) (hf : FrR km cx K σ w a.tmps fr) (hi : Inv km cx K σ w) (ho : o.op = .store t x y) (hc : compO P A o = some po) (he : evO E s fr σ po = some (r, σ')) : OpDone km P cx K σ w o a r σ' := by
  simp only [compO, ho] at hc
  obtain ⟨n, hn, hc⟩ := Option.bind_eq_some_iff.1 hc
  obtain ⟨x', h1, hc⟩ := Option.bind_eq_some_iff.1 hc
  obtain ⟨y', h2, rfl⟩ := Option.map_eq_some_iff.1 hc
  have r1 := opnd_rep hA hf h1
  have r2 := opnd_rep hA hf h2
  simp only [evO] at he
  split at he
  · rename_i o1 g1 es i j hu
    rw [hu] at r1
    split at he
    · rename_i ob hob
      split at he
      · rename_i hall
        obtain ⟨rfl, q2, q3, q4, q5, q6, q7⟩ := hall
        simp only [Option.some.injEq, Prod.mk.injEq] at he
        obtain ⟨rfl, rfl⟩ := he
        obtain ⟨hsz, hcell⟩ := rep_cells r2 q6
        generalize hvx : a.eval x = vx at r1
        cases r1 with
        | bx _ _ _ _ _ b hk =>
          have hkb := hi.kb _ _ _ hk
          obtain ⟨b', hk', hcells⟩ := hi.dom _ _ _ hob
          obtain rfl : b' = b := by rw [hk] at hk'; simpa using hk'.symm
          have hvl : (a.eval y).cells.toList.length = n := by simp [hsz, q4]
          have hbd : i * ob.es + j + n ≤ ob.xs.length * ob.es := by
            have : (i + 1) * ob.es ≤ ob.xs.length * ob.es := Nat.mul_le_mul_right _ q7
            rw [Nat.add_mul] at this
            omega
          have hone : ∀ v ∈ (a.eval y).cells.toList, v.oneCell' = true := by
            intro v hv
            obtain ⟨k, hk2⟩ := List.getElem?_of_mem hv
            have hlt := (List.getElem?_eq_some_iff.1 hk2).1
            obtain ⟨u, c1, c2, _⟩ := hcell k _ (List.getElem?_eq_getElem (show k < (cellsOf (pa fr y')).length by omega))
            have : (a.eval y).cells[k]? = some v := by simpa using hk2
            rw [this] at c1
            simp only [Option.some.injEq] at c1
            rw [c1]; exact c2
          have hst := run_storeCells_cells (P := P) b' (i * ob.es + j) (a.eval y).cells.toList 0 w (fun k hk2 => obj_cell hcells (by omega)) (fun k hk2 => by
              cases hfz : w.frozen? ⟨b', i * ob.es + j + 0 + k, none⟩ with
              | false => rfl
              | true =>
                have := ((hi.alv _ _ _ _ hob q2 hk).2 _ hfz).1
                rw [q3] at this; cases this) hone
          simp only [Nat.add_zero] at hst
          have hrun : (execOp a.eval o).run P w = .ok .skip (w.setCells b' (i * ob.es + j) (a.eval y).cells.toList) := by
            have hne : (a.eval y).cells.size = n := by omega
            simp [execOp, ho, hvx, Instr.storeAt, Instr.sureAddr, storeVar, run_size hn, hne, hst]
          have hel : ∀ e0, ob.xs[i]? = some e0 → (cellsOf e0).length = ob.es := fun e0 h => hcells.len i e0 h
          have hnew : ∀ e0, ob.xs[i]? = some e0 → ∀ k, (cellsOf (if n = ob.es then pa fr y' else .agg (splice (cellsOf e0) j (cellsOf (pa fr y')))))[k]? = if k < j then (cellsOf e0)[k]? else if k < j + n then (cellsOf (pa fr y'))[k - j]? else (cellsOf e0)[k]? := by
            intro e0 he0 k
            have hl := hel e0 he0
            split
            · rename_i hnes
              have hj0 : j = 0 := by omega
              subst hj0
              by_cases hk3 : k < n
              · simp [hk3]
              · rw [List.getElem?_eq_none (by omega)]
                simp [hk3, List.getElem?_eq_none (show (cellsOf e0).length ≤ k by omega)]
            · show (splice (cellsOf e0) j (cellsOf (pa fr y')))[k]? = _
              rw [splice_get (by omega), q4]
          have hnewl : ∀ e0, ob.xs[i]? = some e0 → (cellsOf (if n = ob.es then pa fr y' else .agg (splice (cellsOf e0) j (cellsOf (pa fr y'))))).length = ob.es := by
            intro e0 he0
            split
            · omega
            · show (splice (cellsOf e0) j (cellsOf (pa fr y'))).length = _
              rw [splice_length (by rw [hel e0 he0]; omega), hel e0 he0]
          obtain ⟨f1, f2⟩ := inv_set hi (x' := { ob with xs := ob.xs.modify i fun e => if n = ob.es then pa fr y' else .agg (splice (cellsOf e) j (cellsOf (pa fr y'))) }) hob q2 q3 hk (i * ob.es + j) (a.eval y).cells.toList hone (by omega) ⟨rfl, q2, q3, by simp⟩
            (fun i2 e he2 => by
              simp only [List.getElem?_modify] at he2
              obtain ⟨e0, he0, rfl⟩ := Option.map_eq_some_iff.1 he2
              split
              · rename_i hii; subst hii; exact hnewl e0 he0
              · exact hcells.len i2 e0 he0)
            (fun i2 j2 e p he2 hp => by
              simp only [List.getElem?_modify] at he2
              obtain ⟨e0, he0, rfl⟩ := Option.map_eq_some_iff.1 he2
              split at hp
              · rename_i hii
                subst hii
                rw [hnew e0 he0] at hp
                split at hp
                · exact .inr ⟨by omega, e0, he0, hp⟩
                · split at hp
                  · left
                    obtain ⟨u, c1, c2, c3⟩ := hcell _ p hp
                    refine ⟨by omega, u, ?_, c3⟩
                    rw [show i * ob.es + j2 - (i * ob.es + j) = j2 - j by omega]
                    simpa using c1
                  · exact .inr ⟨by omega, e0, he0, hp⟩
              · rename_i hii
                right
                refine ⟨?_, e0, he0, hp⟩
                have hj2 : j2 < ob.es := by rw [← hcells.len i2 e0 he0]; exact (List.getElem?_eq_some_iff.1 hp).1
                rcases Nat.lt_or_gt_of_ne hii with h | h
                · right
                  have : (i + 1) * ob.es ≤ i2 * ob.es := Nat.mul_le_mul_right _ h
                  rw [Nat.add_mul] at this; omega
                · left
                  have : (i2 + 1) * ob.es ≤ i * ob.es := Nat.mul_le_mul_right _ h
                  rw [Nat.add_mul] at this; omega)
          exact ⟨_, _, _, K, hrun, rfl, .jk _, f1, f2⟩
      · cases he
    · cases he
  · cases he

end
end Go.Proofs.YtcpgkdaicglogaaGreatDoorPv
