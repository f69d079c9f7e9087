/-
Values as they stand; what a call is.
-/
import Derived.Test.YtcpgkdaicglogaaGreatDoorPvN
import Derived.Calls
namespace Go.Proofs.YtcpgkdaicglogaaGreatDoorPv
open Go Go.RowKit

section
variable {km : Km} {P : Program} {A : Ann} {cx : Cx km} {K : Nat → Nat → Option Nat} {σ σ' : St} {w : World} {E : Ev} {s : Nat} {fr : Fr} {a : Act} {o : Oper} {po : PO} {r : PV}

theorem mapM_get' {α β : Type} {f : α → Option β} {xs : List α} {ys : List β} (h : xs.mapM f = some ys) {i : Nat} {y : β} (hy : ys[i]? = some y) : ∃ x, xs[i]? = some x ∧ f x = some y := by
  obtain ⟨h1, h2⟩ := mapM_get h
  have hlt : i < xs.length := by rw [← h1]; exact (List.getElem?_eq_some_iff.1 hy).1
  obtain ⟨y', hy', hf⟩ := h2 i _ (List.getElem?_eq_getElem hlt)
  rw [hy] at hy'
  simp only [Option.some.injEq] at hy'
  exact ⟨_, List.getElem?_eq_getElem hlt, by rw [hy']; exact hf⟩

theorem fz_cells {d : Nat} {p p' : PV} (h : fz σ d p = some p') : (cellsOf p').length = (cellsOf p).length ∧ ∀ (j : Nat) q', (cellsOf p')[j]? = some q' → ∃ q d', d' ≤ d ∧ (cellsOf p)[j]? = some q ∧ fz σ d' q = some q' := by
  have one : ∀ {q q' : PV}, cellsOf q = [q] → cellsOf q' = [q'] → fz σ d q = some q' → (cellsOf q').length = (cellsOf q).length ∧ ∀ (j : Nat) r', (cellsOf q')[j]? = some r' → ∃ r d', d' ≤ d ∧ (cellsOf q)[j]? = some r ∧ fz σ d' r = some r' := by
    intro q q' e1 e2 hq
    rw [e1, e2]
    refine ⟨rfl, fun j r' hr => ?_⟩
    have hj0 : j = 0 := by have := (List.getElem?_eq_some_iff.1 hr).1; simp at this; exact this
    subst hj0
    simp at hr
    subst hr
    exact ⟨q, d, Nat.le_refl _, rfl, hq⟩
  cases d with
  | zero => simp [fz] at h
  | succ d =>
    cases p with
    | agg cs =>
      simp only [fz] at h
      obtain ⟨cs', hcs, rfl⟩ := Option.map_eq_some_iff.1 h
      obtain ⟨h1, h2⟩ := mapM_get hcs
      refine ⟨h1, fun j q' hq => ?_⟩
      obtain ⟨q, hq1, hq2⟩ := mapM_get' hcs hq
      exact ⟨q, d, Nat.le_succ _, hq1, hq2⟩
    | ob o g es i n =>
      refine one rfl ?_ h
      simp only [fz] at h
      split at h
      · split at h
        · obtain ⟨l, _, rfl⟩ := Option.map_eq_some_iff.1 h; rfl
        · cases h
      · cases h
    | bx o g es i j =>
      refine one rfl ?_ h
      simp only [fz] at h
      split at h
      · split at h
        · obtain ⟨l, _, rfl⟩ := Option.map_eq_some_iff.1 h; rfl
        · cases h
      · cases h
    | fn f a b =>
      refine one rfl ?_ h
      simp only [fz] at h
      obtain ⟨a', _, h⟩ := Option.bind_eq_some_iff.1 h
      obtain ⟨b', _, rfl⟩ := Option.map_eq_some_iff.1 h
      rfl
    | tu cs =>
      refine one rfl ?_ h
      simp only [fz] at h
      obtain ⟨a', _, rfl⟩ := Option.map_eq_some_iff.1 h
      rfl
    | ifc t v =>
      refine one rfl ?_ h
      simp only [fz] at h
      obtain ⟨a', _, rfl⟩ := Option.map_eq_some_iff.1 h
      rfl
    | em =>
      refine one rfl ?_ h
      simp only [fz, Option.some.injEq] at h
      subst h; rfl
    | jk =>
      refine one rfl ?_ h
      simp only [fz, Option.some.injEq] at h
      subst h; rfl
    | sc v =>
      refine one rfl ?_ h
      simp only [fz, Option.some.injEq] at h
      subst h; rfl
    | sl v =>
      refine one rfl ?_ h
      simp only [fz, Option.some.injEq] at h
      subst h; rfl
    | fp v =>
      refine one rfl ?_ h
      simp only [fz, Option.some.injEq] at h
      subst h; rfl
    | mp o g => simp [fz] at h

/-- The objects' cells are among 'S'. -/
def ObjS (K : Nat → Nat → Option Nat) (σ : St) (S : Addr → Prop) : Prop := ∀ o g x b k, σ.m o g = some x → K o g = some b → k < x.xs.length * x.es → S ⟨b, k, none⟩

theorem clL_get {l : List PV} (h : ∀ (i : Nat) p, l[i]? = some p → cl p = true) : clL l = true := clL_of fun p hp => by
  obtain ⟨i, hi⟩ := List.getElem?_of_mem hp
  exact h i p hi

theorem cl_of_cells {x : PV} (h : ∀ (j : Nat) p, (cellsOf x)[j]? = some p → cl p = true) : cl x = true := by
  cases x with
  | agg cs => simp only [cl]; exact clL_get h
  | _ => exact h 0 _ rfl

theorem fz_rep (hi : Inv km cx K σ w) {S : Addr → Prop} (hS : ∀ a, Stab cx K σ w a → S a) (K' : Nat → Nat → Option Nat) : ∀ (d : Nat) (p p' : PV) (v : Value), fz σ d p = some p' → RepS km cx K σ w v p → (cl p = true ∨ ObjS K σ S) →
    cl p' = true ∧ Rep km w.cell? S K' v p' := by
  intro d
  induction d using Nat.strongRecOn with
  | _ d ih =>
  intro p p' v h hr hcl
  cases d with
  | zero => simp [fz] at h
  | succ d =>
  have keep : ∀ {q : PV}, RepS km cx K σ w v q → cl q = true → Rep km w.cell? S K' v q := fun hr hc => (hr.closed hc).ext (fun _ _ _ h => h) (fun a h _ => hS a h) (fun _ h => h) (fun _ _ _ h => h)
  have lst : ∀ {vs : List Value} {qs qs' : List PV}, qs.mapM (fz σ d) = some qs' → vs.length = qs.length → (∀ (i : Nat) v p, vs[i]? = some v → qs[i]? = some p → RepS km cx K σ w v p) → (clL qs = true ∨ ObjS K σ S) →
      vs.length = qs'.length ∧ clL qs' = true ∧ ∀ (i : Nat) v p, vs[i]? = some v → qs'[i]? = some p → Rep km w.cell? S K' v p := by
    intro vs qs qs' hm hl hrs hc
    obtain ⟨h1, h2⟩ := mapM_get hm
    have key : ∀ (i : Nat) v p, vs[i]? = some v → qs'[i]? = some p → cl p = true ∧ Rep km w.cell? S K' v p := by
      intro i v p hv hp
      obtain ⟨q, hq, hf⟩ := mapM_get' hm hp
      exact ih d (Nat.lt_succ_self d) q p v hf (hrs i v q hv hq) (hc.imp (fun h => clL_mem h hq) id)
    refine ⟨by omega, clL_get fun i p hp => ?_, fun i v p hv hp => (key i v p hv hp).2⟩
    have hlt : i < vs.length := by have := (List.getElem?_eq_some_iff.1 hp).1; omega
    exact (key i _ p (List.getElem?_eq_getElem hlt) hp).1
  -- the elements of an object
  have els : ∀ {o g b : Nat} {x : Obj} {i n : Nat} {l : List PV}, σ.m o g = some x → K o g = some b → CellsAt km cx K σ w b x → ObjS K σ S → i + n ≤ x.xs.length → ((x.xs.drop i).take n).mapM (fz σ d) = some l →
      ∃ us : Nat → Nat → Value, clL l = true ∧ l.length = n ∧ (∀ i' j, i' < n → j < x.es → w.cell? ⟨b, i * x.es + (i' * x.es + j), none⟩ = some (us i' j) ∧ S ⟨b, i * x.es + (i' * x.es + j), none⟩ ∧ (us i' j).oneCell' = true) ∧
        (∀ (i' : Nat) e, l[i']? = some e → (cellsOf e).length = x.es) ∧ (∀ (i' j : Nat) e q, l[i']? = some e → (cellsOf e)[j]? = some q → Rep km w.cell? S K' (us i' j) q) := by
    intro o g b x i n l hx hk hcells hO hin hm
    have hl0 : ((x.xs.drop i).take n).length = n := by simp; omega
    obtain ⟨h1, h2⟩ := mapM_get hm
    have hsrc : ∀ i', i' < n → ∀ e, ((x.xs.drop i).take n)[i']? = some e → x.xs[i + i']? = some e := by
      intro i' hi' e he
      rw [List.getElem?_take, if_pos hi', List.getElem?_drop] at he
      exact he
    have hlen : ∀ (i' : Nat) e, l[i']? = some e → (cellsOf e).length = x.es := by
      intro i' e he
      obtain ⟨e0, he0, hf⟩ := mapM_get' hm he
      have hi' : i' < n := by have := (List.getElem?_eq_some_iff.1 he0).1; omega
      rw [(fz_cells hf).1]
      exact hcells.len _ e0 (hsrc i' hi' e0 he0)
    have hget : ∀ i' j, i' < n → j < x.es → ∃ u e q, w.cell? ⟨b, (i + i') * x.es + j, none⟩ = some u ∧ u.oneCell' = true ∧ l[i']? = some e ∧ (cellsOf e)[j]? = some q ∧ cl q = true ∧ Rep km w.cell? S K' u q := by
      intro i' j hi' hj
      have hlt : i' < l.length := by omega
      have he := List.getElem?_eq_getElem hlt
      obtain ⟨e0, he0, hf⟩ := mapM_get' hm he
      have hx0 := hsrc i' hi' e0 he0
      have hj' : j < (cellsOf l[i']).length := by rw [hlen i' _ he]; exact hj
      obtain ⟨q0, d', hd', hq0, hfq⟩ := (fz_cells hf).2 j _ (List.getElem?_eq_getElem hj')
      obtain ⟨u, c1, c2, c3, _⟩ := hcells.cell _ j e0 q0 hx0 hq0
      have := ih d' (by omega) q0 _ u hfq c3 (.inr hO)
      exact ⟨u, _, _, c1, c2, he, List.getElem?_eq_getElem hj', this.1, this.2⟩
    refine ⟨fun i' j => (w.cell? ⟨b, (i + i') * x.es + j, none⟩).getD undef, clL_get fun i' e he => cl_of_cells fun j q hq => ?_, by omega, fun i' j hi' hj => ?_, hlen, fun i' j e q he hq => ?_⟩
    · have hi' : i' < n := by have := (List.getElem?_eq_some_iff.1 he).1; omega
      have hj : j < x.es := by rw [← hlen i' e he]; exact (List.getElem?_eq_some_iff.1 hq).1
      obtain ⟨u, e', q', _, _, he', hq', hc, _⟩ := hget i' j hi' hj
      rw [he] at he'; simp only [Option.some.injEq] at he'; subst he'
      rw [hq] at hq'; simp only [Option.some.injEq] at hq'; subst hq'
      exact hc
    · obtain ⟨u, e', q', c1, c2, _, _, _, _⟩ := hget i' j hi' hj
      have hsum : i * x.es + (i' * x.es + j) = (i + i') * x.es + j := by rw [Nat.add_mul]; omega
      show w.cell? _ = some ((w.cell? ⟨b, (i + i') * x.es + j, none⟩).getD undef) ∧ _ ∧ ((w.cell? ⟨b, (i + i') * x.es + j, none⟩).getD undef).oneCell' = true
      rw [hsum, c1]
      refine ⟨rfl, hO o g x b _ hx hk ?_, c2⟩
      have : (i + i' + 1) * x.es ≤ x.xs.length * x.es := Nat.mul_le_mul_right _ (by omega)
      rw [Nat.add_mul (i + i') 1] at this
      omega
    · have hi' : i' < n := by have := (List.getElem?_eq_some_iff.1 he).1; omega
      have hj : j < x.es := by rw [← hlen i' e he]; exact (List.getElem?_eq_some_iff.1 hq).1
      obtain ⟨u, e', q', c1, _, he', hq', _, c3⟩ := hget i' j hi' hj
      rw [he] at he'; simp only [Option.some.injEq] at he'; subst he'
      rw [hq] at hq'; simp only [Option.some.injEq] at hq'; subst hq'
      show Rep km w.cell? S K' ((w.cell? ⟨b, (i + i') * x.es + j, none⟩).getD undef) q
      rw [c1]
      exact c3
  cases p with
  | em =>
    simp only [fz, Option.some.injEq] at h
    subst h
    cases hr with
    | em a => exact ⟨rfl, .sl a 0 0 0 0 0 [] (fun _ _ => undef) rfl (Nat.le_refl _) (.inl rfl) rfl (fun i j h => by omega) (fun i x h => by simp at h) (fun i j x p h => by simp at h)⟩
  | ob o g es i n =>
    have hO : ObjS K σ S := hcl.resolve_left (by simp [cl])
    simp only [fz] at h
    split at h
    · rename_i x hx
      split at h
      · rename_i hc
        obtain ⟨rfl, hc⟩ := hc
        obtain ⟨l, hl, rfl⟩ := Option.map_eq_some_iff.1 h
        cases hr with
        | ob _ _ _ _ _ cap b a hk hn ha hcs =>
          obtain ⟨b', hk', hcells⟩ := hi.dom _ _ _ hx
          obtain rfl : b' = b := by rw [hk] at hk'; simpa using hk'.symm
          obtain ⟨us, e1, e2, e3, e4, e5⟩ := els hx hk hcells hO hc hl
          exact ⟨by simp only [cl], .sl a n cap b' (i * x.es) x.es l us e2.symm hn (ha.imp (fun h => by omega) id) e1 e3 e4 e5⟩
      · cases h
    · cases h
  | bx o g es i j =>
    have hO : ObjS K σ S := hcl.resolve_left (by simp [cl])
    simp only [fz] at h
    split at h
    · rename_i x hx
      split at h
      · rename_i hc
        obtain ⟨rfl, hc1, hc2⟩ := hc
        obtain ⟨l, hl, rfl⟩ := Option.map_eq_some_iff.1 h
        cases hr with
        | bx _ _ _ _ _ b hk =>
          obtain ⟨b', hk', hcells⟩ := hi.dom _ _ _ hx
          obtain rfl : b' = b := by rw [hk] at hk'; simpa using hk'.symm
          obtain ⟨us, e1, e2, e3, e4, e5⟩ := els (i := 0) (n := x.xs.length) hx hk hcells hO (by omega) (by simpa using hl)
          have := Rep.fp (km := km) (L := w.cell?) (S := S) (K := K') b' (0 * x.es) x.es i j l us e1 (fun i j hi hj => e3 i j (by omega) hj) e4 e5
          rw [show 0 * x.es + (i * x.es + j) = i * x.es + j by omega] at this
          exact ⟨by simp only [cl], this⟩
      · cases h
    · cases h
  | fn f a b =>
    simp only [fz] at h
    obtain ⟨a', ha, h⟩ := Option.bind_eq_some_iff.1 h
    obtain ⟨b', hb, rfl⟩ := Option.map_eq_some_iff.1 h
    cases hr with
    | fn _ vf vc _ _ h1 h2 h3 h4 =>
      obtain ⟨p1, p2, p3⟩ := lst ha h1 h3 (hcl.imp (fun h => by simp only [cl, Bool.and_eq_true] at h; exact h.1) id)
      obtain ⟨q1, q2, q3⟩ := lst hb h2 h4 (hcl.imp (fun h => by simp only [cl, Bool.and_eq_true] at h; exact h.2) id)
      exact ⟨by simp only [cl, Bool.and_eq_true]; exact ⟨p2, q2⟩, .fn f vf vc a' b' p1 q1 p3 q3⟩
  | agg cs =>
    simp only [fz] at h
    obtain ⟨cs', hcs, rfl⟩ := Option.map_eq_some_iff.1 h
    obtain ⟨vs, rfl, h1, h2, h3⟩ := hr.inv_agg
    obtain ⟨p1, p2, p3⟩ := lst hcs h1 h3 (hcl.imp (fun h => by simpa only [cl] using h) id)
    exact ⟨by simp only [cl]; exact p2, .agg vs cs' p1 h2 p3⟩
  | tu cs =>
    simp only [fz] at h
    obtain ⟨cs', hcs, rfl⟩ := Option.map_eq_some_iff.1 h
    cases hr with
    | tu vs _ h1 h3 =>
      obtain ⟨p1, p2, p3⟩ := lst hcs h1 h3 (hcl.imp (fun h => by simpa only [cl] using h) id)
      exact ⟨by simp only [cl]; exact p2, .tu vs cs' p1 p3⟩
  | ifc t q =>
    simp only [fz] at h
    obtain ⟨q', hq, rfl⟩ := Option.map_eq_some_iff.1 h
    cases hr with
    | ifc _ u _ h1 =>
      obtain ⟨p1, p2⟩ := ih d (Nat.lt_succ_self d) q q' u hq h1 (hcl.imp (fun h => by simpa only [cl] using h) id)
      exact ⟨by simp only [cl]; exact p1, .ifc t u q' p2⟩
  | jk => simp only [fz, Option.some.injEq] at h; subst h; exact ⟨rfl, .jk v⟩
  | sc u => simp only [fz, Option.some.injEq] at h; subst h; exact ⟨rfl, keep hr rfl⟩
  | sl xs => simp only [fz, Option.some.injEq] at h; subst h; exact ⟨rfl, keep hr rfl⟩
  | fp xs i j => simp only [fz, Option.some.injEq] at h; subst h; exact ⟨rfl, keep hr rfl⟩
  | mp o g => simp [fz] at h

end
end Go.Proofs.YtcpgkdaicglogaaGreatDoorPv
