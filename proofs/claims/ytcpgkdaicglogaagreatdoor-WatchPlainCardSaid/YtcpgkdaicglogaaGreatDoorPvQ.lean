/-
Calls.
-/
import Derived.Test.YtcpgkdaicglogaaGreatDoorPvO
namespace Go.Proofs.YtcpgkdaicglogaaGreatDoorPv
open Go Go.RowKit

def CallDone (km : Km) (cx : Cx km) (K : Nat → Nat → Option Nat) (σ : St) (w : World) (r : PV) (σ' : St) (e : Ending) (w' : World) : Prop :=
  ∃ v K', e = .returned v ∧ RepS km cx K' σ' w' v r ∧ Inv km cx K' σ' w' ∧ Ext cx K σ w K' σ' w'

/-- The function can be called. -/
def Open (P : Program) (f : FuncId) : Prop := ∃ fn, P.funcs[f]? = some fn ∧ fn.body.isSome = true ∧ fn.name ≠ "runtime.NumGoroutine"

/-- What the evaluator says of calls is so. -/
def SoundE (km : Km) (P : Program) (E : Ev) : Prop := ∀ f args σ r σ', E f args σ = some (r, σ') → Open P (km f) ∧
  ∀ (cx : Cx km) (K : Nat → Nat → Option Nat) (w : World) (vs : List Value), Inv km cx K σ w → vs.length = args.length → (∀ (i : Nat) v p, vs[i]? = some v → args[i]? = some p → RepS km cx K σ w v p) →
    Calls P (km f) vs.toArray w (CallDone km cx K σ w r σ')

section
variable {km : Km} {P : Program} {A : Ann} {cx : Cx km} {K : Nat → Nat → Option Nat} {σ σ' : St} {w w' : World} {E : Ev} {s : Nat} {fr : Fr} {a : Act} {o : Oper} {po : PO} {r : PV}

theorem stab_grow (hb : Below w.heap.size w w') {a : Addr} (h : Stab cx K σ w a) : Stab cx K σ w' a := by
  rcases h with h | ⟨h1, h2, h3⟩
  · exact .inl h
  · exact .inr ⟨h1, Nat.lt_of_lt_of_le h2 hb.size, h3⟩

theorem inv_nil (w : World) (S0 : Addr → Prop) (gl : km.Holds w) : Inv km ⟨w, S0, gl⟩ (fun _ _ => none) St.nil w :=
  ⟨Below.refl _ _, (fun _ _ _ h => by cases h), (fun _ _ _ h => by cases h), (fun _ _ _ h => by cases h), (fun _ _ _ _ h => by cases h), (fun _ _ _ _ _ _ _ h => by cases h), (fun _ _ _ h => by cases h), (fun _ _ _ h => by cases h), (fun _ _ _ _ _ _ _ h => by cases h)⟩

theorem stab_lt (hi : Inv km cx K σ w) {a : Addr} (h : Stab cx K σ w a) : a.block < w.heap.size := by
  rcases h with ⟨h, _⟩ | ⟨_, h, _⟩
  · exact Nat.lt_of_lt_of_le h hi.bel.size
  · exact h

theorem pcall_core (hE : SoundE km P E) (hi : Inv km cx K σ w) {S0 : Addr → Prop} {f : Nat} {as : List PV} {vs : List Value} {r0 r' : PV} {σ1 : St} (hlen : vs.length = as.length)
    (has : ∀ (i : Nat) v p, vs[i]? = some v → as[i]? = some p → Rep km w.cell? (Stab (km := km) ⟨w, S0, hi.holds⟩ (fun _ _ => none) St.nil w) (fun _ _ => none) v p)
    (hrun : E f as St.nil = some (r0, σ1)) (hfz : fz σ1 dep r0 = some r') (hr : flat r' = true ∨ ∀ a, S0 a → Stab cx K σ w a) : Open P (km f) ∧ Calls P (km f) vs.toArray w (CallDone km cx K σ w r' σ) := by
  obtain ⟨hop, hc⟩ := hE f as St.nil r0 σ1 hrun
  refine ⟨hop, (hc ⟨w, S0, hi.holds⟩ _ w vs (inv_nil w S0 _) hlen has).mono ?_⟩
  rintro e w1 ⟨v, K1, rfl, h1, h2, h3⟩
  have hb : Below w.heap.size w w1 := h2.bel
  obtain ⟨g1, g2⟩ := inv_grow hi hb
  refine ⟨v, K, rfl, ?_, g1, g2⟩
  rcases hr with hr | hr
  · exact (fz_rep h2 (S := fun _ => True) (fun _ _ => trivial) K dep r0 r' v hfz h1 (.inr fun _ _ _ _ _ _ _ _ => trivial)).2.flat hr
  · refine (fz_rep h2 (S := Stab cx K σ w1) (fun a ha => ?_) K dep r0 r' v hfz h1 (.inr fun o g x b k _ hk _ => ?_)).2
    · rcases ha with ⟨_, h⟩ | ⟨h4, h5, _⟩
      · exact stab_grow hb (hr a h)
      · exact stab_new hi h4 h5
    · exact stab_new hi (h2.kb _ _ _ hk).1 (h2.kb _ _ _ hk).2

theorem mapM_congr {α β : Type} {f g : α → Option β} (h : ∀ x, f x = g x) (l : List α) : l.mapM f = l.mapM g := by
  have : f = g := funext h
  rw [this]

theorem fz_lock (σ : St) : ∀ d p, fz σ.lock d p = fz σ d p
  | 0, p => by simp [fz]
  | d + 1, p => by
    have ih := fz_lock σ d
    have hm : ∀ o g, σ.lock.m o g = (σ.m o g).map fun x => { x with wr := false } := fun _ _ => rfl
    cases p with
    | ob o g es i n =>
      simp only [fz, hm]
      cases σ.m o g with
      | none => rfl
      | some x => simp only [Option.map_some, mapM_congr ih]
    | bx o g es i j =>
      simp only [fz, hm]
      cases σ.m o g with
      | none => rfl
      | some x => simp only [Option.map_some, mapM_congr ih]
    | fn f a b => simp only [fz, mapM_congr ih]
    | agg cs => simp only [fz, mapM_congr ih]
    | tu cs => simp only [fz, mapM_congr ih]
    | ifc t v => simp only [fz, ih]
    | jk => rfl
    | sc v => rfl
    | em => rfl
    | sl v => rfl
    | fp v => rfl
    | mp o g => rfl

theorem inv_lock (hi : Inv km cx K σ w) : Inv km cx K σ.lock w ∧ Ext cx K σ w K σ.lock w := inv_weaken hi rfl fun o g x' h => by
  have h : (σ.m o g).map (fun x => { x with wr := false }) = some x' := h
  obtain ⟨x, hx, rfl⟩ := Option.map_eq_some_iff.1 h
  exact ⟨x, hx, rfl, rfl, id, fun h => by cases h⟩

theorem cell_split {x : Obj} (hl : ∀ (i : Nat) e, x.xs[i]? = some e → (cellsOf e).length = x.es) {k : Nat} (hk : k < x.xs.length * x.es) :
    ∃ i j e p, k = i * x.es + j ∧ x.xs[i]? = some e ∧ (cellsOf e)[j]? = some p := by
  have h0 : 0 < x.es := by
    rcases Nat.eq_zero_or_pos x.es with h0 | h0
    · rw [h0] at hk; omega
    · exact h0
  have hi : k / x.es < x.xs.length := Nat.div_lt_of_lt_mul (by rw [Nat.mul_comm]; exact hk)
  have hln := hl _ _ (List.getElem?_eq_getElem hi)
  have hj : k % x.es < (cellsOf x.xs[k / x.es]).length := by rw [hln]; exact Nat.mod_lt _ h0
  exact ⟨_, _, _, _, by rw [Nat.mul_comm]; exact (Nat.div_add_mod k x.es).symm, List.getElem?_eq_getElem hi, List.getElem?_eq_getElem hj⟩

theorem pcall_sound (hE : SoundE km P E) {strict : Bool} (hi : Inv km cx K σ w) {f : Nat} {args : List PV} {vs : List Value} (hlen : vs.length = args.length)
    (has : ∀ (i : Nat) v p, vs[i]? = some v → args[i]? = some p → RepS km cx K σ w v p) (h : pcall E strict f args σ = some (r, σ')) : Open P (km f) ∧ Calls P (km f) vs.toArray w (CallDone km cx K σ w r σ') := by
  unfold pcall at h
  obtain ⟨as, has', h⟩ := Option.bind_eq_some_iff.1 h
  obtain ⟨⟨r0, σ1⟩, hrun, h⟩ := Option.bind_eq_some_iff.1 h
  obtain ⟨r', hfz, h⟩ := Option.bind_eq_some_iff.1 h
  obtain ⟨m1, _⟩ := mapM_get has'
  have hl : vs.length = as.length := by omega
  split at h
  · rename_i hq
    simp only [Option.some.injEq, Prod.mk.injEq] at h
    obtain ⟨rfl, rfl⟩ := h
    simp only [Bool.or_eq_true] at hq
    rcases hq with hq | hq
    · refine pcall_core hE hi (S0 := fun _ => True) hl (fun i v p hv hp => ?_) hrun hfz (.inl hq)
      obtain ⟨q, hq1, hq2⟩ := mapM_get' has' hp
      exact (fz_rep hi (fun a ha => .inl ⟨stab_lt hi ha, trivial⟩) _ dep q p v hq2 (has i v q hv hq1) (.inr fun o g x b k _ hk _ => .inl ⟨(hi.kb _ _ _ hk).2, trivial⟩)).2
    · refine pcall_core hE hi (S0 := Stab cx K σ w) hl (fun i v p hv hp => ?_) hrun hfz (.inr fun _ h => h)
      obtain ⟨q, hq1, hq2⟩ := mapM_get' has' hp
      exact (fz_rep hi (fun a ha => .inl ⟨stab_lt hi ha, ha⟩) _ dep q p v hq2 (has i v q hv hq1) (.inl (clL_mem hq hq1))).2
  · split at h
    · cases h
    · simp only [Option.some.injEq, Prod.mk.injEq] at h
      obtain ⟨rfl, rfl⟩ := h
      obtain ⟨hi2, hx2⟩ := inv_lock hi
      have := pcall_core hE hi2 (S0 := Stab cx K σ.lock w) hl (fun i v p hv hp => ?_) hrun hfz (.inr fun _ h => h)
      · refine ⟨this.1, this.2.mono ?_⟩
        rintro e w1 ⟨v, K1, rfl, h1, h2, h3⟩
        exact ⟨v, K1, rfl, h1, h2, hx2.trans h3⟩
      · obtain ⟨q, hq1, hq2⟩ := mapM_get' has' hp
        rw [← fz_lock] at hq2
        refine (fz_rep hi2 (fun a ha => .inl ⟨stab_lt hi2 ha, ha⟩) _ dep q p v hq2 (hx2.rep (has i v q hv hq1)) (.inr fun o g x b k hx hk hlt => .inl ⟨(hi2.kb _ _ _ hk).2, ?_⟩)).2
        obtain ⟨b', hk', hcells⟩ := hi2.dom _ _ _ hx
        obtain rfl : b' = b := by rw [hk] at hk'; simpa using hk'.symm
        have hwr : x.wr = false := by
          have h : (σ.m o g).map (fun x => { x with wr := false }) = some x := hx
          obtain ⟨y, _, rfl⟩ := Option.map_eq_some_iff.1 h
          rfl
        obtain ⟨i, j, e, q, rfl, he, hq⟩ := cell_split hcells.len hlt
        obtain ⟨_, _, _, _, c4⟩ := hcells.cell i j e q he hq
        exact c4 (by simp [hwr])

theorem callE_sound (hE : SoundE km P E) {md : Mode} (hi : Inv km cx K σ w) {f : Nat} {args : List PV} {vs : List Value} (hlen : vs.length = args.length)
    (has : ∀ (i : Nat) v p, vs[i]? = some v → args[i]? = some p → RepS km cx K σ w v p) (h : callE E f md args σ = some (r, σ')) : Open P (km f) ∧ Calls P (km f) vs.toArray w (CallDone km cx K σ w r σ') := by
  cases md with
  | strict => exact pcall_sound hE hi hlen has h
  | pure => exact pcall_sound hE hi hlen has h
  | opn =>
    obtain ⟨h1, h2⟩ := hE f args σ r σ' h
    exact ⟨h1, h2 cx K w vs hi hlen has⟩
  | imp => cases h

/-- What a callee made may be the caller's. -/
theorem icall_core (hE : SoundE km P E) (hs : Plain s) (hi : Inv km cx K σ w) {S0 : Addr → Prop} {f : Nat} {as : List PV} {vs : List Value} {o g : Nat} {x : Obj} {σ1 : St} (hlen : vs.length = as.length)
    (has : ∀ (i : Nat) v p, vs[i]? = some v → as[i]? = some p → Rep km w.cell? (Stab (km := km) ⟨w, S0, hi.holds⟩ (fun _ _ => none) St.nil w) (fun _ _ => none) v p)
    (hrun : E f as St.nil = some (.ob o g x.es 0 x.xs.length, σ1)) (hm : σ1.m o g = some x) (hal : x.al = true) (hwr : x.wr = true) (hr : flatL x.xs = true ∨ (clL x.xs = true ∧ ∀ a, S0 a → Stab cx K σ w a)) :
    Open P (km f) ∧ Calls P (km f) vs.toArray w (CallDone km cx K σ w (.ob s (σ.c s) x.es 0 x.xs.length) (σ.new s x)) := by
  obtain ⟨hop, hc⟩ := hE f as St.nil _ σ1 hrun
  refine ⟨hop, (hc ⟨w, S0, hi.holds⟩ _ w vs (inv_nil w S0 _) hlen has).mono ?_⟩
  rintro e w1 ⟨v, K1, rfl, h1, h2, h3⟩
  have hb : Below w.heap.size w w1 := h2.bel
  obtain ⟨g1, g2⟩ := inv_grow hi hb
  cases h1 with
  | ob _ _ _ _ _ cap b a hk hn hba hcs =>
  obtain ⟨b', hk', hcells⟩ := h2.dom _ _ _ hm
  obtain rfl : b' = b := by rw [hk] at hk'; simpa using hk'.symm
  obtain ⟨kb1, kb2⟩ := h2.kb _ _ _ hk
  have kb1 : w.heap.size ≤ b' := kb1
  obtain ⟨a1, a2⟩ := h2.alv _ _ _ _ hm hal hk
  -- what the cells stand for, seen by the caller, but for this block itself
  have hrep : ∀ (i j : Nat) e p, x.xs[i]? = some e → (cellsOf e)[j]? = some p → ∃ v, w1.cell? ⟨b', i * x.es + j, none⟩ = some v ∧ v.oneCell' = true ∧ Rep km w1.cell? (fun a => Stab cx K σ w1 a ∧ a.block ≠ b') K v p := by
    intro i j e p he hp
    obtain ⟨v, c1, c2, c3, _⟩ := hcells.cell i j e p he hp
    refine ⟨v, c1, c2, ?_⟩
    rcases hr with hr | ⟨hcl, hS⟩
    · exact Rep.flat c3 (by
        have hfe := flatL_mem hr he
        cases e with
        | agg cs => exact flatL_mem (l := cs) (by simpa [Go.Proofs.YtcpgkdaicglogaaGreatDoorPv.flat] using hfe) hp
        | _ =>
          cases j with
          | zero => simp only [cellsOf, List.getElem?_cons_zero, Option.some.injEq] at hp; exact hp ▸ hfe
          | succ j => simp [cellsOf] at hp)
    · refine (Rep.closed c3 (cl_cellsOf (clL_mem hcl he) hp)).ext (fun _ _ _ h => h) (fun a ha _ => ?_) (fun _ h => h) (fun _ _ _ h => h)
      rcases ha with ⟨h4, h5⟩ | ⟨h4, h5, h6⟩
      · have h4 : a.block < w.heap.size := h4
        exact ⟨stab_grow hb (hS a h5), by omega⟩
      · refine ⟨stab_new hi h4 h5, fun hab => ?_⟩
        have := (h6 o g x hm hal (by rw [hab]; exact hk)).1
        rw [hwr] at this; cases this
  have hmn : ∀ o' g' y, (σ.new s x).m o' g' = some y → (o' = s ∧ g' = σ.c s ∧ y = x) ∨ (¬ (o' = s ∧ g' = σ.c s) ∧ σ.m o' g' = some y) := by
    intro o' g' y h
    simp only [St.new] at h
    split at h
    · rename_i hq; simp only [Option.some.injEq] at h; exact .inl ⟨hq.1, hq.2, h.symm⟩
    · rename_i hq; exact .inr ⟨hq, h⟩
  have hst : ∀ a, Stab cx K σ w1 a → a.block ≠ b' → Stab cx (Kput K s (σ.c s) b') (σ.new s x) w1 a := by
    intro a h hne
    rcases h with h | ⟨q1, q2, q3⟩
    · exact .inl h
    · refine .inr ⟨q1, q2, fun o' g' y hy hal' hk2 => ?_⟩
      rcases hmn o' g' y hy with ⟨rfl, rfl, rfl⟩ | ⟨hne', hy'⟩
      · rw [Kput_new] at hk2; simp only [Option.some.injEq] at hk2; exact absurd hk2.symm hne
      · rcases Kput_inv hk2 with ⟨r1, r2, _⟩ | ⟨_, hk3⟩
        · exact absurd ⟨r1, r2⟩ hne'
        · exact q3 o' g' y hy' hal' hk3
  have hold : ∀ o' g' b, K o' g' = some b → b ≠ b' := fun o' g' b h => by have := (hi.kb _ _ _ h).2; omega
  have hext : Ext cx K σ w (Kput K s (σ.c s) b') (σ.new s x) w1 := by
    refine ⟨fun o' g' b h => Kput_old hi h, g2.cell, fun a h1' h2' => hst a (g2.stab a h1' h2') ?_, g2.some_⟩
    have := cell_lt h2'
    omega
  have hnew : ∀ {v p}, Rep km w1.cell? (fun a => Stab cx K σ w1 a ∧ a.block ≠ b') K v p → RepS km cx (Kput K s (σ.c s) b') (σ.new s x) w1 v p := fun h =>
    h.ext (fun _ _ _ h => h) (fun a ha _ => hst a ha.1 ha.2) (fun _ h => h) (fun _ _ _ h => Kput_old hi h)
  have hinv : Inv km cx (Kput K s (σ.c s) b') (σ.new s x) w1 := by
    refine ⟨g1.bel, fun o' g' b h => ?_, fun o' g' b h => ?_, fun o' g' y h => ?_, fun o' g' y b q1 q2 q3 => ?_, fun o' g' y o2 g2' y' b q1 q2 q3 q4 q5 q6 => ?_, fun o' g' b h => ?_, fun o' g' l h => ?_, fun o' g' l o2 g2' l' b q1 q2 q3 q4 => ?_⟩
    · rcases Kput_inv h with ⟨_, _, rfl⟩ | ⟨_, h⟩
      · exact ⟨Nat.le_trans hi.bel.size kb1, kb2⟩
      · exact g1.kb o' g' b h
    · rcases Kput_inv h with ⟨rfl, rfl, _⟩ | ⟨hne, h⟩
      · simp [St.new]
      · have := hi.iss o' g' b h
        simp only [St.new]
        split
        · rename_i ho; subst ho; omega
        · exact this
    · rcases hmn o' g' y h with ⟨rfl, rfl, rfl⟩ | ⟨hne, h'⟩
      · refine ⟨b', Kput_new, hcells.len, fun i j e p he hp => ?_⟩
        obtain ⟨v, q1, q2, q3⟩ := hrep i j e p he hp
        exact ⟨v, q1, q2, hnew q3, fun hf => by simp [hal, hwr] at hf⟩
      · obtain ⟨b, r1, r2⟩ := hi.dom o' g' y h'
        refine ⟨b, Kput_old hi r1, r2.len, fun i j e p he hp => ?_⟩
        obtain ⟨v, q1, q2, q3, q4⟩ := r2.cell i j e p he hp
        have hcc : w1.cell? ⟨b, i * y.es + j, none⟩ = w.cell? ⟨b, i * y.es + j, none⟩ := hb.cell (cell_lt (by rw [q1]; rfl))
        refine ⟨v, by rw [hcc]; exact q1, q2, hext.rep q3, fun hf => ?_⟩
        exact hst _ (stab_grow hb (q4 hf)) (hold _ _ _ r1)
    · rcases hmn o' g' y q1 with ⟨rfl, rfl, rfl⟩ | ⟨hne, h'⟩
      · rw [Kput_new] at q3
        simp only [Option.some.injEq] at q3
        subst q3
        exact ⟨a1, a2⟩
      · rcases Kput_inv q3 with ⟨r1, r2, _⟩ | ⟨_, hk2⟩
        · exact absurd ⟨r1, r2⟩ hne
        · exact g1.alv o' g' y b h' q2 hk2
    · rcases hmn o' g' y q1 with ⟨rfl, rfl, rfl⟩ | ⟨hne, h'⟩
      · rw [Kput_new] at q3
        simp only [Option.some.injEq] at q3
        subst q3
        rcases hmn o2 g2' y' q4 with ⟨rfl, rfl, rfl⟩ | ⟨hne', h''⟩
        · exact ⟨rfl, rfl⟩
        · rcases Kput_inv q6 with ⟨r1, r2, _⟩ | ⟨_, hk3⟩
          · exact absurd ⟨r1, r2⟩ hne'
          · exact absurd rfl (hold _ _ _ hk3)
      · rcases Kput_inv q3 with ⟨r1, r2, _⟩ | ⟨_, hk2⟩
        · exact absurd ⟨r1, r2⟩ hne
        · rcases hmn o2 g2' y' q4 with ⟨rfl, rfl, rfl⟩ | ⟨hne', h''⟩
          · rw [Kput_new] at q6
            simp only [Option.some.injEq] at q6
            subst q6
            exact absurd rfl (hold _ _ _ hk2)
          · rcases Kput_inv q6 with ⟨r1, r2, _⟩ | ⟨_, hk3⟩
            · exact absurd ⟨r1, r2⟩ hne'
            · exact hi.dis o' g' y o2 g2' y' b h' q2 hk2 h'' q5 hk3
    · rcases Kput_inv h with ⟨r1, _, r2⟩ | ⟨_, hk2⟩
      · rw [r1]; exact hs.site
      · exact g1.bld o' g' b hk2
    · have h' : σ.mm o' g' = some l := h
      obtain ⟨c, r1, r2⟩ := hi.mdom o' g' l h'
      exact ⟨c, Kput_old hi r1, r2.ext hext (hb.block _ (hi.kb _ _ _ r1).2)⟩
    · have q1' : σ.mm o' g' = some l := q1
      have q3' : σ.mm o2 g2' = some l' := q3
      have l1 := hi.mlt q1'
      have l2 := hi.mlt q3'
      rcases Kput_inv q2 with ⟨rfl, rfl, _⟩ | ⟨_, k1⟩
      · omega
      · rcases Kput_inv q4 with ⟨rfl, rfl, _⟩ | ⟨_, k2⟩
        · omega
        · exact hi.mdis _ _ _ _ _ _ _ q1' k1 q3' k2
  exact ⟨_, _, rfl, .ob s (σ.c s) x.es 0 _ cap b' a Kput_new hn hba hcs, hinv, hext⟩

theorem icallE_sound (hE : SoundE km P E) (hs : Plain s) (hi : Inv km cx K σ w) {f : Nat} {args : List PV} {vs : List Value} (hlen : vs.length = args.length)
    (has : ∀ (i : Nat) v p, vs[i]? = some v → args[i]? = some p → RepS km cx K σ w v p) (h : icallE E s f args σ = some (r, σ')) : Open P (km f) ∧ Calls P (km f) vs.toArray w (CallDone km cx K σ w r σ') := by
  unfold icallE at h
  obtain ⟨as, has', h⟩ := Option.bind_eq_some_iff.1 h
  obtain ⟨⟨r0, σ1⟩, hrun, h⟩ := Option.bind_eq_some_iff.1 h
  obtain ⟨m1, _⟩ := mapM_get has'
  have hl : vs.length = as.length := by omega
  have hasT : ∀ (i : Nat) v p, vs[i]? = some v → as[i]? = some p → Rep km w.cell? (Stab (km := km) ⟨w, fun _ => True, hi.holds⟩ (fun _ _ => none) St.nil w) (fun _ _ => none) v p := fun i v p hv hp => by
    obtain ⟨q, hq1, hq2⟩ := mapM_get' has' hp
    exact (fz_rep hi (fun a ha => .inl ⟨stab_lt hi ha, trivial⟩) _ dep q p v hq2 (has i v q hv hq1) (.inr fun o g x b k _ hk _ => .inl ⟨(hi.kb _ _ _ hk).2, trivial⟩)).2
  cases r0 with
  | em =>
    simp only [Option.some.injEq, Prod.mk.injEq] at h
    obtain ⟨h1', h2'⟩ := h
    rw [← h1', ← h2']
    obtain ⟨hop, hc⟩ := hE f as St.nil _ σ1 hrun
    refine ⟨hop, (hc ⟨w, fun _ => True, hi.holds⟩ _ w vs (inv_nil w _ _) hl hasT).mono ?_⟩
    rintro e w1 ⟨v, K1, rfl, h1, h2, h3⟩
    obtain ⟨g1, g2⟩ := inv_grow hi h2.bel
    cases h1 with
    | em a => exact ⟨_, K, rfl, .em a, g1, g2⟩
  | ob o g es i n =>
    simp only at h
    cases hx : σ1.m o g with
    | none => rw [hx] at h; cases h
    | some x =>
      rw [hx, Option.bind_some] at h
      split at h
      · rename_i hq
        obtain ⟨q1, q2, q3, hal, hwr, hfl⟩ := hq
        subst q1 q2 q3
        simp only [Option.some.injEq, Prod.mk.injEq] at h
        obtain ⟨h1', h2'⟩ := h
        rw [← h1', ← h2']
        simp only [Bool.or_eq_true, Bool.and_eq_true] at hfl
        rcases hfl with hfl | ⟨hfa, hfx⟩
        · exact icall_core hE hs hi hl hasT hrun hx hal hwr (.inl hfl)
        · refine icall_core hE hs hi (S0 := Stab cx K σ w) hl (fun i v p hv hp => ?_) hrun hx hal hwr (.inr ⟨hfx, fun _ h => h⟩)
          obtain ⟨q, hq1, hq2⟩ := mapM_get' has' hp
          exact (fz_rep hi (fun a ha => .inl ⟨stab_lt hi ha, ha⟩) _ dep q p v hq2 (has i v q hv hq1) (.inl (clL_mem hfa hq1))).2
      · cases h
  | _ => cases h

theorem callFunc_run {f : FuncId} {args : Array Value} (h : Open P f) : (callFunc f args).run P w = .ok (.enter f args) w := by
  obtain ⟨fn, h1, h2, h3⟩ := h
  obtain ⟨c, hc⟩ := Option.isSome_iff_exists.1 h2
  simp [callFunc, h1, hc, h3]

/-- What a call of a function value leads to. -/
theorem upon_call {f : Nat} {first captured : List Value} {c : Call} {next : Act → World → Prop} {Q : Exit → Act → World → Prop} {r : PV} (ho : o.op = .call c) (hcl : ∃ x, c.callee = .value x ∧ a.eval x = .func (.func (km f)) first.toArray captured.toArray)
    (h : Open P (km f) ∧ Calls P (km f) (first ++ (c.args.toList.map a.eval) ++ captured).toArray w (CallDone km cx K σ w r σ'))
    (hn : ∀ v w' K', RepS km cx K' σ' w' v r → Inv km cx K' σ' w' → Ext cx K σ w K' σ' w' → next (a.put o.dst v) w') : o.wp P a w next Q := by
  obtain ⟨x, hx, hv⟩ := hcl
  obtain ⟨h1, h2⟩ := h
  have hargs : first.toArray ++ c.args.map a.eval ++ captured.toArray = (first ++ (c.args.toList.map a.eval) ++ captured).toArray := by
    apply Array.ext'
    simp
  have hrun : (execOp a.eval o).run P w = .ok (.enter (km f) (first ++ (c.args.toList.map a.eval) ++ captured).toArray) w := by
    have := callFunc_run (P := P) (w := w) (f := km f) (args := first.toArray ++ c.args.map a.eval ++ captured.toArray) h1
    rw [hargs] at this
    simp [execOp, ho, resolve, hx, hv, Deferred.ofValue, invoke, hargs] <;> simpa using this
  unfold Oper.wp
  rw [hrun, Oper.upon_enter]
  refine h2.mono ?_
  rintro e w' ⟨v, K', rfl, q1, q2, q3⟩
  exact hn v w' K' q1 q2 q3

end
end Go.Proofs.YtcpgkdaicglogaaGreatDoorPv
