/-
Calls.
-/
import Derived.Test.YtckcgppnppiccaaDoorPvO
namespace Go.Proofs.YtckcgppnppiccaaDoorPv
open Go Go.RowKit

def CallDone (km : Km) (cx : Cx km) (K : Nat → Nat → Option Nat) (σ : St) (w : World) (r : PV) (σ' : St) (e : Ending) (w' : World) : Prop :=
  ∃ v K', e = .returned v ∧ RepS km cx K' σ' w' v r ∧ Inv km cx K' σ' w' ∧ Ext cx K σ w K' σ' w'

/-- The function can be called. -/
def Open (P : Program) (f : FuncId) : Prop := ∃ fn, P.funcs[f]? = some fn ∧ fn.body.isSome = true ∧ fn.name ≠ "runtime.NumGoroutine"

/-- What the evaluator says of calls is so. -/
def SoundE (km : Km) (P : Program) (E : Ev) : Prop := ∀ f args σ r σ', E f args σ = some (r, σ') → Open P (km f) ∧
  ∀ (cx : Cx km) (K : Nat → Nat → Option Nat) (w : World) (vs : List Value), Inv km cx K σ w → vs.length = args.length → (∀ (i : Nat) v p, vs[i]? = some v → args[i]? = some p → RepS km cx K σ w v p) →
    Calls P (km f) vs.toArray w (CallDone km cx K σ w r σ')

section
variable {km : Km} {P : Program} {A : Ann} {cx : Cx km} {K : Nat → Nat → Option Nat} {σ σ' : St} {w w' : World} {E : Ev} {s : Nat} {fr : Fr} {a : Act} {o : Oper} {po : PO} {r : PV}

theorem stab_grow (hb : Below w.heap.size w w') {a : Addr} (h : Stab cx K σ w a) : Stab cx K σ w' a := by
  rcases h with h | ⟨h1, h2, h3⟩
  · exact .inl h
  · exact .inr ⟨h1, Nat.lt_of_lt_of_le h2 hb.size, h3⟩

theorem inv_nil (w : World) (S0 : Addr → Prop) (gl : km.Holds w) : Inv km ⟨w, S0, gl⟩ (fun _ _ => none) St.nil w :=
  ⟨Below.refl _ _, (fun _ _ _ h => by cases h), (fun _ _ _ h => by cases h), (fun _ _ _ h => by cases h), (fun _ _ _ _ h => by cases h), (fun _ _ _ _ _ _ _ h => by cases h), (fun _ _ _ h => by cases h), (fun _ _ _ h => by cases h), (fun _ _ _ _ _ _ _ h => by cases h)⟩

theorem stab_lt (hi : Inv km cx K σ w) {a : Addr} (h : Stab cx K σ w a) : a.block < w.heap.size := by
  rcases h with ⟨h, _⟩ | ⟨_, h, _⟩
  · exact Nat.lt_of_lt_of_le h hi.bel.size
  · exact h

theorem pcall_core (hE : SoundE km P E) (hi : Inv km cx K σ w) {S0 : Addr → Prop} {f : Nat} {as : List PV} {vs : List Value} {r0 r' : PV} {σ1 : St} (hlen : vs.length = as.length)
    (has : ∀ (i : Nat) v p, vs[i]? = some v → as[i]? = some p → Rep km w.cell? (Stab (km := km) ⟨w, S0, hi.holds⟩ (fun _ _ => none) St.nil w) (fun _ _ => none) v p)
    (hrun : E f as St.nil = some (r0, σ1)) (hfz : fz σ1 dep r0 = some r') (hr : flat r' = true ∨ ∀ a, S0 a → Stab cx K σ w a) : Open P (km f) ∧ Calls P (km f) vs.toArray w (CallDone km cx K σ w r' σ) := by
  obtain ⟨hop, hc⟩ := hE f as St.nil r0 σ1 hrun
  refine ⟨hop, (hc ⟨w, S0, hi.holds⟩ _ w vs (inv_nil w S0 _) hlen has).mono ?_⟩
  rintro e w1 ⟨v, K1, rfl, h1, h2, h3⟩
  have hb : Below w.heap.size w w1 := h2.bel
  obtain ⟨g1, g2⟩ := inv_grow hi hb
  refine ⟨v, K, rfl, ?_, g1, g2⟩
  rcases hr with hr | hr
  · exact (fz_rep h2 (S := fun _ => True) (fun _ _ => trivial) K dep r0 r' v hfz h1 (.inr fun _ _ _ _ _ _ _ _ => trivial)).2.flat hr
  · refine (fz_rep h2 (S := Stab cx K σ w1) (fun a ha => ?_) K dep r0 r' v hfz h1 (.inr fun o g x b k _ hk _ => ?_)).2
    · rcases ha with ⟨_, h⟩ | ⟨h4, h5, _⟩
      · exact stab_grow hb (hr a h)
      · exact stab_new hi h4 h5
    · exact stab_new hi (h2.kb _ _ _ hk).1 (h2.kb _ _ _ hk).2

theorem mapM_congr {α β : Type} {f g : α → Option β} (h : ∀ x, f x = g x) (l : List α) : l.mapM f = l.mapM g := by
  have : f = g := funext h
  rw [this]

theorem fz_lock (σ : St) : ∀ d p, fz σ.lock d p = fz σ d p
  | 0, p => by simp [fz]
  | d + 1, p => by
    have ih := fz_lock σ d
    have hm : ∀ o g, σ.lock.m o g = (σ.m o g).map fun x => { x with wr := false } := fun _ _ => rfl
    cases p with
    | ob o g es i n =>
      simp only [fz, hm]
      cases σ.m o g with
      | none => rfl
      | some x => simp only [Option.map_some, mapM_congr ih]
    | bx o g es i j =>
      simp only [fz, hm]
      cases σ.m o g with
      | none => rfl
      | some x => simp only [Option.map_some, mapM_congr ih]
    | fn f a b => simp only [fz, mapM_congr ih]
    | agg cs => simp only [fz, mapM_congr ih]
    | tu cs => simp only [fz, mapM_congr ih]
    | ifc t v => simp only [fz, ih]
    | jk => rfl
    | sc v => rfl
    | em => rfl
    | sl v => rfl
    | fp v => rfl
    | mp o g => rfl

theorem inv_lock (hi : Inv km cx K σ w) : Inv km cx K σ.lock w ∧ Ext cx K σ w K σ.lock w := inv_weaken hi rfl fun o g x' h => by
  have h : (σ.m o g).map (fun x => { x with wr := false }) = some x' := h
  obtain ⟨x, hx, rfl⟩ := Option.map_eq_some_iff.1 h
  exact ⟨x, hx, rfl, rfl, id, fun h => by cases h⟩

theorem cell_split {x : Obj} (hl : ∀ (i : Nat) e, x.xs[i]? = some e → (cellsOf e).length = x.es) {k : Nat} (hk : k < x.xs.length * x.es) :
    ∃ i j e p, k = i * x.es + j ∧ x.xs[i]? = some e ∧ (cellsOf e)[j]? = some p := by
  have h0 : 0 < x.es := by
    rcases Nat.eq_zero_or_pos x.es with h0 | h0
    · rw [h0] at hk; omega
    · exact h0
  have hi : k / x.es < x.xs.length := Nat.div_lt_of_lt_mul (by rw [Nat.mul_comm]; exact hk)
  have hln := hl _ _ (List.getElem?_eq_getElem hi)
  have hj : k % x.es < (cellsOf x.xs[k / x.es]).length := by rw [hln]; exact Nat.mod_lt _ h0
  exact ⟨_, _, _, _, by rw [Nat.mul_comm]; exact (Nat.div_add_mod k x.es).symm, List.getElem?_eq_getElem hi, List.getElem?_eq_getElem hj⟩

theorem pcall_sound (hE : SoundE km P E) {strict : Bool} (hi : Inv km cx K σ w) {f : Nat} {args : List PV} {vs : List Value} (hlen : vs.length = args.length)
    (has : ∀ (i : Nat) v p, vs[i]? = some v → args[i]? = some p → RepS km cx K σ w v p) (h : pcall E strict f args σ = some (r, σ')) : Open P (km f) ∧ Calls P (km f) vs.toArray w (CallDone km cx K σ w r σ') := by
  unfold pcall at h
  obtain ⟨as, has', h⟩ := Option.bind_eq_some_iff.1 h
  obtain ⟨⟨r0, σ1⟩, hrun, h⟩ := Option.bind_eq_some_iff.1 h
  obtain ⟨r', hfz, h⟩ := Option.bind_eq_some_iff.1 h
  obtain ⟨m1, _⟩ := mapM_get has'
  have hl : vs.length = as.length := by omega
  split at h
  · rename_i hq
    simp only [Option.some.injEq, Prod.mk.injEq] at h
    obtain ⟨rfl, rfl⟩ := h
    simp only [Bool.or_eq_true] at hq
    rcases hq with hq | hq
    · refine pcall_core hE hi (S0 := fun _ => True) hl (fun i v p hv hp => ?_) hrun hfz (.inl hq)
      obtain ⟨q, hq1, hq2⟩ := mapM_get' has' hp
      exact (fz_rep hi (fun a ha => .inl ⟨stab_lt hi ha, trivial⟩) _ dep q p v hq2 (has i v q hv hq1) (.inr fun o g x b k _ hk _ => .inl ⟨(hi.kb _ _ _ hk).2, trivial⟩)).2
    · refine pcall_core hE hi (S0 := Stab cx K σ w) hl (fun i v p hv hp => ?_) hrun hfz (.inr fun _ h => h)
      obtain ⟨q, hq1, hq2⟩ := mapM_get' has' hp
      exact (fz_rep hi (fun a ha => .inl ⟨stab_lt hi ha, ha⟩) _ dep q p v hq2 (has i v q hv hq1) (.inl (clL_mem hq hq1))).2
  · split at h
    · cases h
    · simp only [Option.some.injEq, Prod.mk.injEq] at h
      obtain ⟨rfl, rfl⟩ := h
      obtain ⟨hi2, hx2⟩ := inv_lock hi
      have := pcall_core hE hi2 (S0 := Stab cx K σ.lock w) hl (fun i v p hv hp => ?_) hrun hfz (.inr fun _ h => h)
      · refine ⟨this.1, this.2.mono ?_⟩
        rintro e w1 ⟨v, K1, rfl, h1, h2, h3⟩
        exact ⟨v, K1, rfl, h1, h2, hx2.trans h3⟩
      · obtain ⟨q, hq1, hq2⟩ := mapM_get' has' hp
        rw [← fz_lock] at hq2
        refine (fz_rep hi2 (fun a ha => .inl ⟨stab_lt hi2 ha, ha⟩) _ dep q p v hq2 (hx2.rep (has i v q hv hq1)) (.inr fun o g x b k hx hk hlt => .inl ⟨(hi2.kb _ _ _ hk).2, ?_⟩)).2
        obtain ⟨b', hk', hcells⟩ := hi2.dom _ _ _ hx
        obtain rfl : b' = b := by rw [hk] at hk'; simpa using hk'.symm
        have hwr : x.wr = false := by
          have h : (σ.m o g).map (fun x => { x with wr := false }) = some x := hx
          obtain ⟨y, _, rfl⟩ := Option.map_eq_some_iff.1 h
          rfl
        obtain ⟨i, j, e, q, rfl, he, hq⟩ := cell_split hcells.len hlt
        obtain ⟨_, _, _, _, c4⟩ := hcells.cell i j e q he hq
        exact c4 (by simp [hwr])

theorem callE_sound (hE : SoundE km P E) {md : Mode} (hi : Inv km cx K σ w) {f : Nat} {args : List PV} {vs : List Value} (hlen : vs.length = args.length)
    (has : ∀ (i : Nat) v p, vs[i]? = some v → args[i]? = some p → RepS km cx K σ w v p) (h : callE E f md args σ = some (r, σ')) : Open P (km f) ∧ Calls P (km f) vs.toArray w (CallDone km cx K σ w r σ') := by
  cases md with
  | strict => exact pcall_sound hE hi hlen has h
  | pure => exact pcall_sound hE hi hlen has h
  | opn =>
    obtain ⟨h1, h2⟩ := hE f args σ r σ' h
    exact ⟨h1, h2 cx K w vs hi hlen has⟩

theorem callFunc_run {f : FuncId} {args : Array Value} (h : Open P f) : (callFunc f args).run P w = .ok (.enter f args) w := by
  obtain ⟨fn, h1, h2, h3⟩ := h
  obtain ⟨c, hc⟩ := Option.isSome_iff_exists.1 h2
  simp [callFunc, h1, hc, h3]

/-- What a call of a function value leads to. -/
theorem upon_call {f : Nat} {first captured : List Value} {c : Call} {next : Act → World → Prop} {Q : Exit → Act → World → Prop} {r : PV} (ho : o.op = .call c) (hcl : ∃ x, c.callee = .value x ∧ a.eval x = .func (.func (km f)) first.toArray captured.toArray)
    (h : Open P (km f) ∧ Calls P (km f) (first ++ (c.args.toList.map a.eval) ++ captured).toArray w (CallDone km cx K σ w r σ'))
    (hn : ∀ v w' K', RepS km cx K' σ' w' v r → Inv km cx K' σ' w' → Ext cx K σ w K' σ' w' → next (a.put o.dst v) w') : o.wp P a w next Q := by
  obtain ⟨x, hx, hv⟩ := hcl
  obtain ⟨h1, h2⟩ := h
  have hargs : first.toArray ++ c.args.map a.eval ++ captured.toArray = (first ++ (c.args.toList.map a.eval) ++ captured).toArray := by
    apply Array.ext'
    simp
  have hrun : (execOp a.eval o).run P w = .ok (.enter (km f) (first ++ (c.args.toList.map a.eval) ++ captured).toArray) w := by
    have := callFunc_run (P := P) (w := w) (f := km f) (args := first.toArray ++ c.args.map a.eval ++ captured.toArray) h1
    rw [hargs] at this
    simp [execOp, ho, resolve, hx, hv, Deferred.ofValue, invoke, hargs] <;> simpa using this
  unfold Oper.wp
  rw [hrun, Oper.upon_enter]
  refine h2.mono ?_
  rintro e w' ⟨v, K', rfl, q1, q2, q3⟩
  exact hn v w' K' q1 q2 q3

end
end Go.Proofs.YtckcgppnppiccaaDoorPv
