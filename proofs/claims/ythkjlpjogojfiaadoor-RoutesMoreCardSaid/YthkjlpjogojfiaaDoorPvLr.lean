/-
What is handed over, of types that are of themselves (a row of whose own stands within a value).
-/
import Derived.Test.YthkjlpjogojfiaaDoorPvL
namespace Go.Proofs.YthkjlpjogojfiaaDoorPv
open Go Go.RowKit

section
variable {P : Program}

/-- One step of okT: the types within are asked of g. -/
def okT1 (P : Program) (g : TypeId → Bool) (t : TypeId) : Bool := match P.underlying t with
    | some .bool | some (.int _) | some .string => P.cellsOf t == 1
    | some (.slice e) => P.cellsOf t == 1 && decide (0 < P.cellsOf e) && g e
    | some (.struct fs) => fs.toList.all (fun f => g f.type) && tile P 0 fs.toList == some (P.cellsOf t)
    | _ => false

/-- Some types, of which each is of these. -/
def okTs (P : Program) (l : List TypeId) : Bool := l.all fun t => okT1 P (fun t => l.contains t) t

theorem okTs_all {l : List TypeId} (h : okTs P l = true) : ∀ t, l.contains t = true → okT1 P (fun t => l.contains t) t = true := fun t ht => by
  unfold okTs at h
  exact List.all_eq_true.1 h t (by simpa using ht)

section
variable {km : Km} {w : World} {S : Addr → Prop} {K : Nat → Nat → Option Nat} {H : Type} {enc : TypeId × Value → H} {spare : Nat → Bool} {held : Bool}

theorem open_isG {g : TypeId → Bool} (hg : ∀ t, g t = true → okT1 P g t = true) (hS : ∀ a, (w.cell? a).isSome = true → S a) : ∀ (m : Nat) (t : TypeId) (cs : List Value) (d : DataW H) (ps : List MemPlace), g t = true →
    DataW.trod enc P w 0 spare held m t cs = some (d, ps) → (∀ x ∈ d.weights P t, x ≤ reachBytes) →
    Opened P km w S K t cs
  | m, t, cs, d, ps, hok0, ht, hw => by
    have hok := hg t hok0
    unfold okT1 at hok
    split at hok
    · rename_i hu
      obtain ⟨b, rfl, _⟩ := DataW.trod_bool hu ht
      refine ⟨by simp at hok; simp [hok], [.sc (.bool b)], rfl, .bool t b hu, by simp [Value.oneCell'], rfl, fun i v p hv hp => ?_⟩
      cases i with
      | zero => simp at hv hp; subst hv; subst hp; exact .sc _ rfl
      | succ i => simp at hv
    · rename_i k hu
      obtain ⟨q, rfl, _, hwf⟩ := DataW.trod_int hu ht
      refine ⟨by simp at hok; simp [hok], [.sc (.int k q)], rfl, .int t k q hu hwf, by simp [Value.oneCell'], rfl, fun i v p hv hp => ?_⟩
      cases i with
      | zero => simp at hv hp; subst hv; subst hp; exact .sc _ rfl
      | succ i => simp at hv
    · rename_i hu
      obtain ⟨s, rfl, hx, _⟩ := DataW.trod_string hu ht
      simp only [Prod.mk.injEq] at hx
      have hsz : s.size ≤ reachBytes := by
        have := hw s.data.toList.length (by rw [hx.1]; simp [DataW.weights])
        simpa using this
      refine ⟨by simp at hok; simp [hok], [.sc (.string s)], rfl, .str t s hu hsz, by simp [Value.oneCell'], rfl, fun i v p hv hp => ?_⟩
      cases i with
      | zero => simp at hv hp; subst hv; subst hp; exact .sc _ rfl
      | succ i => simp at hv
    · rename_i e hu
      simp only [Bool.and_eq_true, beq_iff_eq, decide_eq_true_eq] at hok
      obtain ⟨⟨h1, h0⟩, he⟩ := hok
      rcases DataW.trod_slice hu ht with ⟨rfl, hx⟩ | ⟨a, len, cap, elems, rest, q, hq, rfl, hx, _, hl, _, hlen, hel, _⟩
      · refine ⟨by simp [h1], [.sl []], rfl, .sl t e [] hu (by simp) (fun ys h => by simp at h), by simp [Value.oneCell'], rfl, fun i v p hv hp => ?_⟩
        cases i with
        | zero =>
          simp at hv hp; subst hv; subst hp
          exact .sl none 0 0 0 0 1 [] (fun _ _ => .nilFunc) rfl (Nat.le_refl _) (.inl rfl) rfl (fun i j hi => by omega) (fun i x hx => by simp at hx) (fun i j x p hx => by simp at hx)
        | succ i => simp at hv
      · simp only [Prod.mk.injEq] at hx
        have hone : ∀ i, i < len → ∃ ys : List PV × List Value, w.cells? 0 (a.add (i * P.cellsOf e)) (P.cellsOf e) = some ys.2 ∧ ys.1.length = P.cellsOf e ∧ Is P e ys.1 ∧ (∀ v ∈ ys.2, v.oneCell' = true) ∧ clL ys.1 = true ∧
            ∀ (j : Nat) v p, ys.2[j]? = some v → ys.1[j]? = some p → Rep km w.cell? S K v p := by
          intro i hi
          have h2 := hel i hi
          have hx' : elems[i]? = some (elems[i]'(by omega)) := List.getElem?_eq_getElem (by omega)
          rw [hx'] at h2
          obtain ⟨c1, hc1, hy1⟩ := Option.bind_eq_some_iff.1 h2
          have hw1 : ∀ x ∈ (elems[i]'(by omega)).1.weights P e, x ≤ reachBytes := fun x hx1 => hw x (by
            rw [hx.1]
            simp only [DataW.weights, hu, List.mem_cons, List.mem_append]
            exact .inr (.inl (weights_all (List.mem_map.2 ⟨_, List.getElem_mem (by omega), rfl⟩) hx1)))
          obtain ⟨g1, pl, g2, g3, g4, g5, g6⟩ := open_isG hg hS q e c1 _ _ he (by rw [hy1]) hw1
          exact ⟨(pl, c1), hc1, by rw [g2, g1], g3, g4, g5, g6⟩
        obtain ⟨us, hul, hus⟩ := list_of hone
        have hwt : len * P.bytesOf e ≤ reachBytes := by
          have h3 := hw ((elems.map (·.1)).length * P.bytesOf e + (rest.map (·.1)).length * P.bytesOf e) (by rw [hx.1]; simp [DataW.weights, hu, Nat.add_mul])
          simp only [List.length_map, hlen] at h3
          omega
        refine ⟨by simp [h1], [.sl ((us.map (·.1)).map (mkPV (isAgg P e)))], rfl, .sl t e (us.map (·.1)) hu (by simpa [hul] using hwt) (fun ys hys => ?_), by simp [Value.oneCell'], ?_, fun i v p hv hp => ?_⟩
        · obtain ⟨u, hu1, rfl⟩ := List.mem_map.1 hys
          obtain ⟨k, hk⟩ := List.getElem?_of_mem hu1
          exact (hus k u hk).2.2.1
        · simp only [clL, cl, Bool.and_self]
        · cases i with
          | succ i => simp at hv
          | zero =>
            simp only [List.getElem?_cons_zero, Option.some.injEq] at hv hp; subst hv; subst hp
            have hspot : ∀ i j, i < len → j < P.cellsOf e → ∃ v, w.cell? (((a.add (i * P.cellsOf e))).add j) = some v ∧ ((a.add (i * P.cellsOf e))).add j = ⟨a.block, a.off + (i * P.cellsOf e + j), none⟩ ∧ (∃ u, us[i]? = some u ∧ u.2[j]? = some v) := by
              intro i j hi hj
              have hk : us[i]? = some (us[i]'(by omega)) := List.getElem?_eq_getElem (by omega)
              obtain ⟨c1, c2, _⟩ := hus i _ hk
              obtain ⟨d1, d2⟩ := cells_get c1
              have hv2 : (us[i]'(by omega)).2[j]? = some ((us[i]'(by omega)).2[j]'(by omega)) := List.getElem?_eq_getElem (by omega)
              refine ⟨_, by rw [d2 j hj, hv2], ?_, _, hk, hv2⟩
              have hs : (w.cell? (((a.add (i * P.cellsOf e))).add j)).isSome = true := by rw [d2 j hj, hv2]; rfl
              have hsp : (((a.add (i * P.cellsOf e))).add j).spot = none := by
                unfold World.cell? at hs
                split at hs
                · split at hs
                  · simp at hs
                  · rename_i hh; simpa using hh
                · simp at hs
              obtain ⟨ab, ao, as⟩ := a
              unfold Addr.add at hsp ⊢
              by_cases hj0 : j = 0
              · by_cases hi0 : i * P.cellsOf e = 0
                · simp [hj0, hi0] at hsp ⊢; exact hsp
                · simp [hj0, hi0]
              · by_cases hi0 : i * P.cellsOf e = 0
                · simp [hj0, hi0]
                · simp [hj0, hi0, Nat.add_assoc]
            have hlist : ((us.map (·.1)).map (mkPV (isAgg P e))) = us.map fun u => mkPV (isAgg P e) u.1 := by simp
            rw [hlist]
            refine .sl (some a) len cap a.block a.off (P.cellsOf e) _ (fun i j => (w.cell? ⟨a.block, a.off + (i * P.cellsOf e + j), none⟩).getD .nilFunc) (by simp [hul]) hl ?_ ?_ ?_ ?_ ?_
            · by_cases h00 : len = 0
              · exact .inl h00
              · right
                obtain ⟨v, _, h5, _⟩ := hspot 0 0 (by omega) h0
                simp [Addr.add] at h5
                rw [h5]
            · exact clL_of fun p hp => by
                obtain ⟨u, hu1, rfl⟩ := List.mem_map.1 hp
                obtain ⟨k, hk⟩ := List.getElem?_of_mem hu1
                obtain ⟨_, g2, g3, _, g5, _⟩ := hus k u hk
                unfold mkPV
                split
                · simpa [cl] using g5
                · cases hu1' : u.1 with
                  | nil => rfl
                  | cons x r => rw [hu1'] at g5; simp only [clL, Bool.and_eq_true] at g5; exact g5.1
            · intro i j hi hj
              obtain ⟨v, h4, h5, u, h6, h7⟩ := hspot i j hi hj
              rw [h5] at h4
              simp only [h4, Option.getD_some]
              exact ⟨trivial, hS _ (by rw [h4]; rfl), (hus i u h6).2.2.2.1 v (List.mem_of_getElem? h7)⟩
            · intro i x hx1
              rw [List.getElem?_map] at hx1
              obtain ⟨u, hu1, rfl⟩ := Option.map_eq_some_iff.1 hx1
              rw [(hus i u hu1).2.2.1.mk_cells]
              exact (hus i u hu1).2.1
            · intro i j x p hx1 hp1
              rw [List.getElem?_map] at hx1
              obtain ⟨u, hu1, rfl⟩ := Option.map_eq_some_iff.1 hx1
              obtain ⟨g1, g2, g3, _, _, g6⟩ := hus i u hu1
              rw [g3.mk_cells] at hp1
              have hi : i < len := by have := (List.getElem?_eq_some_iff.1 hu1).1; omega
              have hj : j < P.cellsOf e := by have := (List.getElem?_eq_some_iff.1 hp1).1; omega
              obtain ⟨v, h4, h5, u', h6, h7⟩ := hspot i j hi hj
              rw [hu1] at h6
              simp only [Option.some.injEq] at h6
              subst h6
              rw [h5] at h4
              simp only [h4, Option.getD_some]
              exact g6 j v p h7 hp1
    · rename_i fs hu
      simp only [Bool.and_eq_true, List.all_eq_true, beq_iff_eq] at hok
      obtain ⟨hf, htile⟩ := hok
      obtain ⟨xs, q, hq, hx, hlen, hxl, hfi⟩ := DataW.trod_struct hu ht
      simp only [Prod.mk.injEq] at hx
      have hall : ∀ f ∈ fs.toList, Opened P km w S K f.type ((cs.drop f.offset).take (P.cellsOf f.type)) := by
        intro f hfm
        obtain ⟨i, hf1⟩ := List.getElem?_of_mem hfm
        have hf1' : fs[i]? = some f := by simpa using hf1
        have hi : i < fs.size := by have := (List.getElem?_eq_some_iff.1 hf1).1; simpa using this
        have h2 := hfi i f hf1'
        have hx' : xs[i]? = some (xs[i]'(by omega)) := List.getElem?_eq_getElem (by omega)
        rw [hx'] at h2
        have hw1 : ∀ x ∈ (xs[i]'(by omega)).1.weights P f.type, x ≤ reachBytes := fun x hx1 => hw x (by
          rw [hx.1]
          simp only [DataW.weights, hu]
          exact DataW.weights_mem_each (j := i) (by simp [hf1']) (by rw [List.getElem?_map, hx']; rfl) x hx1)
        exact open_isG hg hS q f.type _ _ _ (hf f hfm) (by rw [h2]) hw1
      obtain ⟨pl, g1, g2, g3, g4⟩ := glue (P := P) (km := km) (w := w) (S := S) (K := K) fs.toList 0 (P.cellsOf t) cs htile hall
      refine ⟨hlen, pl, by omega, .st t fs pl hu (by omega) (fun i f hf1 => ?_), fun v hv => ?_, g3, fun i v p hv hp => ?_⟩
      · exact (g2 f (by simpa using Array.mem_of_getElem? hf1)).2
      · obtain ⟨k, hk⟩ := List.getElem?_of_mem hv
        have hk1 : k < P.cellsOf t := by have := (List.getElem?_eq_some_iff.1 hk).1; omega
        obtain ⟨v', h5, h6, _⟩ := g4 k (Nat.zero_le _) hk1
        rw [hk] at h5
        simp only [Option.some.injEq] at h5
        exact h5 ▸ h6
      · have hk1 : i < P.cellsOf t := by have := (List.getElem?_eq_some_iff.1 hv).1; omega
        obtain ⟨v', h5, _, h6⟩ := g4 i (Nat.zero_le _) hk1
        rw [hv] at h5
        simp only [Option.some.injEq] at h5
        exact h5 ▸ h6 p hp
    · cases hok
  termination_by m => m
  decreasing_by all_goals omega

/-- An argument of a call. -/
theorem open_argG {g : TypeId → Bool} (hg : ∀ t, g t = true → okT1 P g t = true) {r : Reach} {base : Nat} {t : TypeId} {v : Value} {d : DataW H} {ps : List MemPlace} (hok0 : g t = true) (hval : Value.okWide P w r base t v) (h : DataW.Trod enc P w 0 spare held t v d ps)
    (hw : ∀ x ∈ d.weights P t, x ≤ reachBytes) : ∃ pl, Is P t pl ∧ Rep km w.cell? (fun _ => True) K v (mkPV (isAgg P t) pl) := by
  obtain ⟨m, hm⟩ := h
  obtain ⟨h1, pl, h2, h3, h4, h5, h6⟩ := open_isG (km := km) (S := fun _ => True) (K := K) hg (fun _ _ => trivial) m t v.cells.toList d ps hok0 hm hw
  refine ⟨pl, h3, ?_⟩
  have one : isAgg P t = false → v.cells.toList = [v] → Rep km w.cell? (fun _ => True) K v (mkPV (isAgg P t) pl) := by
    intro ha hc
    rw [hc] at h2 h6
    obtain ⟨p, rfl⟩ : ∃ p, pl = [p] := List.length_eq_one_iff.1 (by simpa using h2)
    simp only [mkPV, ha, Bool.false_eq_true, if_false, List.headD_cons]
    exact h6 0 v p rfl rfl
  · have hok := hg t hok0
    unfold okT1 at hok
    split at hok
    · rename_i hu
      obtain ⟨b, rfl⟩ := Go.WideShapes.okWide_bool hu hval
      exact one (by simp [isAgg, hu]) rfl
    · rename_i k hu
      obtain ⟨b, rfl⟩ := Go.WideShapes.okWide_int hu hval
      exact one (by simp [isAgg, hu]) rfl
    · rename_i hu
      obtain ⟨b, rfl⟩ := Go.WideShapes.okWide_string hu hval
      exact one (by simp [isAgg, hu]) rfl
    · rename_i e hu
      obtain ⟨a, len, cap, rfl⟩ := Go.WideShapes.okWide_slice hu hval
      exact one (by simp [isAgg, hu]) rfl
    · rename_i fs hu
      obtain ⟨cs, rfl, _⟩ := Go.WideShapes.okWide_struct hu hval
      have ha : isAgg P t = true := by simp [isAgg, hu]
      simp only [mkPV, ha, if_true]
      have hc : (Value.agg cs).cells.toList = cs.toList := rfl
      rw [hc] at h2 h4 h6
      exact .agg cs.toList pl h2.symm h4 h6
    · cases hok

end

end
end Go.Proofs.YthkjlpjogojfiaaDoorPv
