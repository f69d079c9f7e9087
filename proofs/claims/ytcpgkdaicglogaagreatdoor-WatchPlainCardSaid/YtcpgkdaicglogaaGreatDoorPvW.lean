/-
Code and functions.
-/
import Derived.Test.YtcpgkdaicglogaaGreatDoorPvV
import Derived.LoopN
namespace Go.Proofs.YtcpgkdaicglogaaGreatDoorPv
open Go Go.RowKit

section
variable {km : Km} {P : Program} {A : Ann} {cx : Cx km} {K : Nat → Nat → Option Nat} {σ σ' : St} {w : World} {E : Ev} {s : Nat} {fr fr' : Fr} {a : Act} {nt : Nat} {D : List Deferred} {Q : Exit → Act → World → Prop}

def exitOf : X → Exit
  | .normal => .normal
  | .exit id => .exit id
  | .ret => .ret

theorem rounds_sound {c : Code} {f : Fr → St → Option (X × Fr × St)}
    (hb : ∀ (Q : Exit → Act → World → Prop) fr σ x fr' σ' a w K, f fr σ = some (x, fr', σ') → Ok km cx nt D K fr σ a w → Then km cx nt D K σ w fr' σ' (Q (exitOf x)) → c.wp P Q a w) :
    ∀ (n : Nat) (fr : Fr) (σ : St) (x : X) (fr' : Fr) (σ' : St) (a : Act) (w : World) (K : Nat → Nat → Option Nat), rounds f n fr σ = some (x, fr', σ') → Ok km cx nt D K fr σ a w → Then km cx nt D K σ w fr' σ' (Q (exitOf x)) → Code.rounds P c Q n a w
  | 0, fr, σ, x, fr', σ', a, w, K, h, _, _ => by simp [rounds] at h
  | n + 1, fr, σ, x, fr', σ', a, w, K, h, ho, hq => by
    simp only [rounds] at h
    obtain ⟨⟨x1, fr1, σ1⟩, h1, h⟩ := Option.bind_eq_some_iff.1 h
    rw [rounds_succ]
    refine hb _ fr σ x1 fr1 σ1 a w K h1 ho fun a1 w1 K1 g1 g2 => ?_
    cases x1 with
    | normal =>
      simp only at h
      exact rounds_sound hb n fr1 σ1 x fr' σ' a1 w1 K1 h g1 (hq.mono g2 fun _ _ h => h)
    | exit id =>
      simp only [Option.some.injEq, Prod.mk.injEq] at h
      obtain ⟨rfl, rfl, rfl⟩ := h
      exact hq a1 w1 K1 g1 g2
    | ret =>
      simp only [Option.some.injEq, Prod.mk.injEq] at h
      obtain ⟨rfl, rfl, rfl⟩ := h
      exact hq a1 w1 K1 g1 g2

theorem code_sound (hE : SoundE km P E) (hA : LinkOk km A) (hm : P.follows .mixedOrders = true) (k : Nat) : ∀ (c : Code) (pc : PC) (Q : Exit → Act → World → Prop) (fr : Fr) (σ : St) (x : X) (fr' : Fr) (σ' : St) (a : Act) (w : World) (K : Nat → Nat → Option Nat),
    compC P A nt c = some pc → evC E k pc fr σ = some (x, fr', σ') → Ok km cx nt D K fr σ a w → Then km cx nt D K σ w fr' σ' (Q (exitOf x)) → c.wp P Q a w := by
  intro c
  induction c with
  | skip =>
    intro pc Q fr σ x fr' σ' a w K hc he ho hq
    simp only [compC, Option.some.injEq] at hc
    subst hc
    simp only [evC, Option.some.injEq, Prod.mk.injEq] at he
    obtain ⟨rfl, rfl, rfl⟩ := he
    exact wp_skip (hq a w K ho Ext.refl)
  | region id ops draw =>
    intro pc Q fr σ x fr' σ' a w K hc he ho hq
    simp only [compC] at hc
    cases draw with
    | true =>
      simp only [if_true] at hc
      obtain ⟨ps, hps, hc⟩ := Option.bind_eq_some_iff.1 hc
      split at hc
      · rename_i qs hqs
        simp only [Option.some.injEq] at hc
        subst hc
        simp only [evC] at he
        obtain ⟨⟨fr1, σ1⟩, h1, he⟩ := Option.map_eq_some_iff.1 he
        simp only [Prod.mk.injEq] at he
        obtain ⟨rfl, rfl, rfl⟩ := he
        exact drawn_sound (A := A.strictly) hE ⟨hA.fn, hA.bt, hA.bb⟩ hm ho hps hqs h1 hq
      · obtain ⟨qs, hqs, rfl⟩ := Option.map_eq_some_iff.1 hc
        simp only [evC] at he
        obtain ⟨⟨fr1, σ1⟩, h1, he⟩ := Option.map_eq_some_iff.1 he
        simp only [Prod.mk.injEq] at he
        obtain ⟨rfl, rfl, rfl⟩ := he
        obtain ⟨h1, h2⟩ := both_some.1 h1
        exact drawn2_sound (A := A.strictly) hE ⟨hA.fn, hA.bt, hA.bb⟩ hm ho hps hqs h1 h2 hq
    | false =>
      simp only [Bool.false_eq_true, if_false] at hc
      obtain ⟨ps, hps, rfl⟩ := Option.map_eq_some_iff.1 hc
      simp only [evC] at he
      obtain ⟨⟨fr1, σ1⟩, h1, he⟩ := Option.map_eq_some_iff.1 he
      simp only [Prod.mk.injEq] at he
      obtain ⟨rfl, rfl, rfl⟩ := he
      exact region_sound hE hA ho hps h1 hq
  | seq c d ih1 ih2 =>
    intro pc Q fr σ x fr' σ' a w K hc he ho hq
    simp only [compC] at hc
    obtain ⟨p1, hp1, hc⟩ := Option.bind_eq_some_iff.1 hc
    obtain ⟨p2, hp2, rfl⟩ := Option.map_eq_some_iff.1 hc
    simp only [evC] at he
    obtain ⟨⟨x1, fr1, σ1⟩, h1, he⟩ := Option.bind_eq_some_iff.1 he
    refine wp_seq (ih1 p1 _ fr σ x1 fr1 σ1 a w K hp1 h1 ho fun a1 w1 K1 g1 g2 => ?_)
    cases x1 with
    | normal =>
      simp only at he
      exact ih2 p2 Q fr1 σ1 x fr' σ' a1 w1 K1 hp2 he g1 (hq.mono g2 fun _ _ h => h)
    | exit id =>
      simp only [Option.some.injEq, Prod.mk.injEq] at he
      obtain ⟨rfl, rfl, rfl⟩ := he
      exact hq a1 w1 K1 g1 g2
    | ret =>
      simp only [Option.some.injEq, Prod.mk.injEq] at he
      obtain ⟨rfl, rfl, rfl⟩ := he
      exact hq a1 w1 K1 g1 g2
  | cond c t e ih1 ih2 =>
    intro pc Q fr σ x fr' σ' a w K hc he ho hq
    simp only [compC] at hc
    obtain ⟨c', hc', hc⟩ := Option.bind_eq_some_iff.1 hc
    obtain ⟨p1, hp1, hc⟩ := Option.bind_eq_some_iff.1 hc
    obtain ⟨p2, hp2, rfl⟩ := Option.map_eq_some_iff.1 hc
    have rc := opnd_rep hA ho.fr hc'
    simp only [evC] at he
    split at he
    · rename_i hb
      rw [hb] at rc
      exact wp_cond_true rc.inv_bool (ih1 p1 Q fr σ x fr' σ' a w K hp1 he ho hq)
    · rename_i hb
      rw [hb] at rc
      exact wp_cond_false rc.inv_bool (ih2 p2 Q fr σ x fr' σ' a w K hp2 he ho hq)
    · cases he
  | block id b ih =>
    intro pc Q fr σ x fr' σ' a w K hc he ho hq
    simp only [compC] at hc
    obtain ⟨p1, hp1, rfl⟩ := Option.map_eq_some_iff.1 hc
    simp only [evC] at he
    obtain ⟨⟨x1, fr1, σ1⟩, h1, he⟩ := Option.map_eq_some_iff.1 he
    refine wp_block (ih p1 _ fr σ x1 fr1 σ1 a w K hp1 h1 ho fun a1 w1 K1 g1 g2 => ?_)
    cases x1 with
    | exit i =>
      simp only [Prod.mk.injEq] at he
      obtain ⟨rfl, rfl, rfl⟩ := he
      have := hq a1 w1 K1 g1 g2
      show (if i = id then Q .normal a1 w1 else Q (.exit i) a1 w1)
      split
      · rename_i hi; rw [if_pos hi] at this; exact this
      · rename_i hi; rw [if_neg hi] at this; exact this
    | normal =>
      simp only [Prod.mk.injEq] at he
      obtain ⟨rfl, rfl, rfl⟩ := he
      exact hq a1 w1 K1 g1 g2
    | ret =>
      simp only [Prod.mk.injEq] at he
      obtain ⟨rfl, rfl, rfl⟩ := he
      exact hq a1 w1 K1 g1 g2
  | loop b ih =>
    intro pc Q fr σ x fr' σ' a w K hc he ho hq
    simp only [compC] at hc
    obtain ⟨p1, hp1, rfl⟩ := Option.map_eq_some_iff.1 hc
    simp only [evC] at he
    exact wp_loop_rounds k (rounds_sound (fun Q fr σ x fr' σ' a w K h1 h2 h3 => ih p1 Q fr σ x fr' σ' a w K hp1 h1 h2 h3) k fr σ x fr' σ' a w K he ho hq)
  | exit id =>
    intro pc Q fr σ x fr' σ' a w K hc he ho hq
    simp only [compC, Option.some.injEq] at hc
    subst hc
    simp only [evC, Option.some.injEq, Prod.mk.injEq] at he
    obtain ⟨rfl, rfl, rfl⟩ := he
    exact wp_exit (hq a w K ho Ext.refl)
  | ret =>
    intro pc Q fr σ x fr' σ' a w K hc he ho hq
    simp only [compC, Option.some.injEq] at hc
    subst hc
    simp only [evC, Option.some.injEq, Prod.mk.injEq] at he
    obtain ⟨rfl, rfl, rfl⟩ := he
    exact wp_ret (hq a w K ho Ext.refl)
  | _ =>
    intro pc Q fr σ x fr' σ' a w K hc
    simp [compC] at hc

def ldOf (e : PV) (j : Nat) : Option Nat → Option PV
  | none => (cellsOf e)[j]?
  | some n => if j + n ≤ (cellsOf e).length then some (.agg (((cellsOf e).drop j).take n)) else none

/-- One of a function's results. -/
def res1 (tmps : Array Value) : ResultVar → Sem Value
  | .tmp t => pure (tmps.getD t undef)
  | .cell a t => do loadVar t (← asAddr (tmps.getD a undef))

/-- What lies behind a pointer. -/
theorem load_rep {t : TypeId} {q : Option Nat} {v : Value} {p e r : PV} {j : Nat} (hi : Inv km cx K σ w) (hq : loadB P t = some q) (r1 : RepS km cx K σ w v p) (hd : deref σ p = some (e, j))
    (he : ldOf e j q = some r) :
    ∃ ad u, v = .pointer (some ad) ∧ (loadVar t ad).run P w = .ok u w ∧ RepS km cx K σ w u r := by
  obtain ⟨b, off, hv, hcells⟩ := deref_rep hi r1 hd
  rcases loadB_some hq with ⟨rfl, hag⟩ | ⟨n, rfl, hag, hsz⟩
  · simp only [ldOf] at he
    obtain ⟨u, c1, c2, c3⟩ := hcells j r he
    exact ⟨_, u, hv, by simp [loadVar, run_agg hag, c1], c3⟩
  · simp only [ldOf] at he
    split at he
    · rename_i hle
      simp only [Option.some.injEq] at he
      subst he
      obtain ⟨us, hlen, hus⟩ := list_of (n := n) (p := fun k u => w.cell? ⟨b, off + j + k, none⟩ = some u ∧ u.oneCell' = true ∧ ∀ q, (cellsOf e)[j + k]? = some q → RepS km cx K σ w u q) fun k hk => by
        obtain ⟨u, c1, c2, c3⟩ := hcells (j + k) _ (List.getElem?_eq_getElem (show j + k < (cellsOf e).length by omega))
        refine ⟨u, by rw [Nat.add_assoc]; exact c1, c2, fun q hq => ?_⟩
        rw [List.getElem?_eq_getElem (show j + k < (cellsOf e).length by omega)] at hq
        simp only [Option.some.injEq] at hq
        rw [← hq]; exact c3
      unfold aggB at hag
      have hrun : (loadVar t ⟨b, off + j, none⟩).run P w = .ok (.agg us.toArray) w := by
        have hz : (P.info? t).map (·.size) = some us.length := by rw [hlen]; exact hsz
        split at hag
        · rename_i hu
          exact run_loadVar_mid w b (off + j) t us _ (fun k v hk => (hus k v hk).1) hu rfl hz
        · rename_i hu
          exact run_loadVar_mid w b (off + j) t us _ (fun k v hk => (hus k v hk).1) hu rfl hz
        · simp at hag
        · cases hag
      refine ⟨_, _, hv, hrun, .agg us _ (by simp [hlen]; omega) (fun v hv' => ?_) fun k v p hk hp => ?_⟩
      · obtain ⟨k, hk⟩ := List.getElem?_of_mem hv'
        exact (hus k v hk).2.1
      · rw [List.getElem?_take] at hp
        split at hp
        · rw [List.getElem?_drop] at hp
          exact (hus k v hk).2.2 p hp
        · cases hp
    · cases he

theorem results_list (hi : Inv km cx K σ w) {tmps : Array Value} (hf : FrR km cx K σ w tmps fr) : ∀ (rs : List ResultVar) (res : List PR) (ps : List PV), rs.mapM (compR P) = some res → res.mapM (resOf fr σ) = some ps →
    ∃ vs : List Value, (rs.mapM (res1 tmps)).run P w = .ok vs w ∧ vs.length = ps.length ∧ ∀ (i : Nat) v p, vs[i]? = some v → ps[i]? = some p → RepS km cx K σ w v p
  | [], res, ps, h1, h2 => by
    simp at h1; subst h1
    simp at h2; subst h2
    exact ⟨[], by simp, rfl, fun i v p h => by simp at h⟩
  | x :: rs, res, ps, h1, h2 => by
    simp only [List.mapM_cons, Option.bind_eq_bind, Option.bind_eq_some_iff] at h1
    obtain ⟨y, hy, res', hres', h1⟩ := h1
    simp at h1
    subst h1
    simp only [List.mapM_cons, Option.bind_eq_bind, Option.bind_eq_some_iff] at h2
    obtain ⟨p, hp, ps', hps', h2⟩ := h2
    simp at h2
    subst h2
    obtain ⟨vs, g1, g2, g3⟩ := results_list hi hf rs res' ps' hres' hps'
    have one : ∃ v, (res1 tmps x).run P w = .ok v w ∧ RepS km cx K σ w v p := by
      cases x with
      | tmp t =>
        simp only [compR, Option.some.injEq] at hy
        subst hy
        simp only [resOf, Option.some.injEq] at hp
        subst hp
        exact ⟨_, rfl, hf t⟩
      | cell a t =>
        simp only [compR] at hy
        obtain ⟨q, hq, rfl⟩ := Option.map_eq_some_iff.1 hy
        simp only [resOf] at hp
        obtain ⟨⟨e, j⟩, hd, hp⟩ := Option.bind_eq_some_iff.1 hp
        obtain ⟨ad, u, hv, hrun, hr⟩ := load_rep hi hq (hf a) hd (by cases q <;> exact hp)
        exact ⟨u, by simp only [res1, hv, asAddr, Sem.run_bind, Sem.run_pure, Result.andThen_ok, hrun], hr⟩
    obtain ⟨v, hv1, hv2⟩ := one
    refine ⟨v :: vs, ?_, by simp [g2], fun i u q hu hq => ?_⟩
    · simp only [List.mapM_cons, Sem.run_bind, hv1, g1, Result.andThen_ok, Sem.run_pure]
    · cases i with
      | zero => simp at hu hq; subst hu hq; exact hv2
      | succ i => exact g3 i u q (by simpa using hu) (by simpa using hq)

theorem results_rep (hi : Inv km cx K σ w) {tmps : Array Value} (hf : FrR km cx K σ w tmps fr) {fn : Func} {res : List PR} {r : PV} (h1 : fn.results.toList.mapM (compR P) = some res) (h2 : retOf fr σ res = some r) :
    ∃ v, (results fn tmps).run P w = .ok v w ∧ RepS km cx K σ w v r := by
  unfold retOf at h2
  obtain ⟨ps, hps, h2⟩ := Option.map_eq_some_iff.1 h2
  obtain ⟨vs, g1, g2, g3⟩ := results_list hi hf fn.results.toList res ps h1 hps
  have hrun : (fn.results.mapM (res1 tmps)).run P w = .ok vs.toArray w := by
    rw [Array.mapM_eq_mapM_toList]
    simp only [Sem.run_map, g1, Result.andThen_ok]
  have hres : results fn tmps = (do let vs ← fn.results.mapM (res1 tmps); pure (if h : vs.size = 1 then vs[0] else .tuple vs)) := rfl
  rw [hres]
  simp only [Sem.run_bind, hrun, Result.andThen_ok, Sem.run_pure]
  refine ⟨_, rfl, ?_⟩
  by_cases hone : vs.length = 1
  · obtain ⟨v, rfl⟩ : ∃ v, vs = [v] := List.length_eq_one_iff.1 hone
    obtain ⟨p, rfl⟩ : ∃ p, ps = [p] := List.length_eq_one_iff.1 (by omega)
    simp only at h2
    subst h2
    simpa using g3 0 v p rfl rfl
  · rw [dif_neg (by simpa using hone)]
    have : r = .tu ps := by
      cases ps with
      | nil => exact h2.symm
      | cons p ps =>
        cases ps with
        | nil => simp at g2; omega
        | cons q ps => exact h2.symm
    subst this
    exact .tu vs ps g2 g3

/-- What is told of a function that is given by hand is so. -/
def PrimOk (km : Km) (P : Program) (k : Nat) (f : List PV → St → Option (PV × St)) : Prop := ∀ args σ r σ', f args σ = some (r, σ') → Open P (km k) ∧
  ∀ (cx : Cx km) (K : Nat → Nat → Option Nat) (w : World) (vs : List Value), Inv km cx K σ w → vs.length = args.length → (∀ (i : Nat) v p, vs[i]? = some v → args[i]? = some p → RepS km cx K σ w v p) →
    Calls P (km k) vs.toArray w (CallDone km cx K σ w r σ')

/-- The functions that the evaluator knows are the program's. -/
def Linked (km : Km) (P : Program) (env : Nat → Option Def) : Prop := ∀ k D, env k = some D → (∃ fn A, P.funcs[km k]? = some fn ∧ LinkOk km A ∧ compF P A fn = some D) ∨ ∃ f, D = .prim f ∧ PrimOk km P k f

theorem func_sound (hE : SoundE km P E) (hm : P.follows .mixedOrders = true) {f : FuncId} {fn : Func} {np k : Nat} {res : List PR} {body : PC} (hf : P.funcs[f]? = some fn) (hA : LinkOk km A) (hc : compF P A fn = some (.code np res body))
    {args : List PV} {r : PV} (hl : args.length = np)
    (he : ((evC E k body (frOf args) σ).bind fun
        | (.normal, fr, σ') | (.ret, fr, σ') => (retOf fr σ' res).map fun v => (v, σ')
        | _ => none) = some (r, σ')) : Open P f ∧ ∀ (cx : Cx km) (K : Nat → Nat → Option Nat) (w : World) (vs : List Value), Inv km cx K σ w → vs.length = args.length → (∀ (i : Nat) v p, vs[i]? = some v → args[i]? = some p → RepS km cx K σ w v p) →
    Calls P f vs.toArray w (CallDone km cx K σ w r σ') := by
  unfold compF at hc
  obtain ⟨res', hres, hc⟩ := Option.bind_eq_some_iff.1 hc
  split at hc
  · rename_i c hb
    obtain ⟨body', hbody, hc⟩ := Option.bind_eq_some_iff.1 hc
    split at hc
    · rename_i hq
      simp only [Option.some.injEq, Def.code.injEq] at hc
      obtain ⟨rfl, rfl, rfl⟩ := hc
      refine ⟨⟨fn, hf, by rw [hb]; rfl, hq.2⟩, fun cx K w vs hi hlen hr => ?_⟩
      obtain ⟨⟨x, fr', σ1⟩, h1, he⟩ := Option.bind_eq_some_iff.1 he
      have fin : (x = .normal ∨ x = .ret) → (retOf fr' σ1 res').map (fun v => (v, σ1)) = some (r, σ') → Calls P f vs.toArray w (CallDone km cx K σ w r σ') := by
        intro hx he
        obtain ⟨r', hret, he⟩ := Option.map_eq_some_iff.1 he
        simp only [Prod.mk.injEq] at he
        obtain ⟨rfl, rfl⟩ := he
        refine calls_of_wp hf hb (code_sound (nt := fn.ntmps) (D := []) (cx := cx) hE hA hm k c body' _ (frOf args) σ x fr' σ1 _ w K hbody h1 ⟨fun t => ?_, hi, by simp; omega, rfl⟩ fun a' w' K' g1 g2 => ?_)
        · by_cases ht : t < vs.length
          · have e1 : (vs.toArray ++ Array.replicate (fn.ntmps - vs.toArray.size) undef).getD t undef = vs[t] := by
              rw [Array.getD_eq_getD_getElem?, Array.getElem?_append_left (by simpa using ht)]
              simp [ht]
            have ht' : t < args.length := by omega
            rw [e1]
            unfold frOf
            rw [List.getElem?_eq_getElem ht']
            exact hr t _ _ (List.getElem?_eq_getElem ht) (List.getElem?_eq_getElem ht')
          · unfold frOf
            rw [List.getElem?_eq_none (by omega)]
            exact .jk _
        · obtain ⟨v, hv, rv⟩ := results_rep (P := P) g1.inv g1.fr hres hret
          have : a'.defers = [] ∧ ∃ v, (results fn a'.tmps).run P w' = .ok v w' ∧ CallDone km cx K σ w r' σ1 (.returned v) w' := ⟨g1.dfs, v, hv, v, K', rfl, rv, g1.inv, g2⟩
          rcases hx with rfl | rfl
          · exact this
          · exact this
      cases x with
      | normal => exact fin (.inl rfl) he
      | ret => exact fin (.inr rfl) he
      | exit id => cases he
    · cases hc
  · cases hc

theorem evF_sound {env : Nat → Option Def} (hm : P.follows .mixedOrders = true) (hL : Linked km P env) : ∀ n, SoundE km P (evF env n)
  | 0 => fun f args σ r σ' h => by simp [evF] at h
  | n + 1 => fun f args σ r σ' h => by
    have ih := evF_sound hm hL n
    simp only [evF] at h
    split at h
    · cases h
    · rename_i p hp
      rcases hL f _ hp with ⟨fn, A, h1, h2, h3⟩ | ⟨g, hg, h1⟩
      · exfalso
        unfold compF at h3
        obtain ⟨res', hres, hc⟩ := Option.bind_eq_some_iff.1 h3
        split at hc
        · obtain ⟨body', hbody, hc⟩ := Option.bind_eq_some_iff.1 hc
          split at hc
          · simp at hc
          · cases hc
        · cases hc
      · simp only [Def.prim.injEq] at hg
        subst hg
        exact h1 args σ r σ' h
    · rename_i np res body hp
      rcases hL f _ hp with ⟨fn, A, h1, h2, h3⟩ | ⟨g, hg, _⟩
      · split at h
        · rename_i hl
          exact func_sound ih hm h1 h2 h3 hl h
        · cases h
      · cases hg

end
end Go.Proofs.YtcpgkdaicglogaaGreatDoorPv
