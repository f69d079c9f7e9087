/-
Operations that make memory, read it and write it.
-/
import Derived.Test.YtcpgkdaicglogaaGreatDoorPvG
namespace Go.Proofs.YtcpgkdaicglogaaGreatDoorPv
open Go Go.RowKit

section
variable {km : Km} {P : Program} {A : Ann} {cx : Cx km} {K : Nat → Nat → Option Nat} {σ σ' : St} {w : World} {E : Ev} {s : Nat} {fr : Fr} {a : Act} {o : Oper} {po : PO} {r : PV}

theorem okc_pv {v : Value} (h : constOk v = true) : okc (pv v) = true := by
  unfold constOk at h
  split at h
  · rfl
  · rename_i hne
    have h1 : pv v = pv1 v := by
      unfold pv
      split
      · rename_i cs; exact absurd rfl (hne cs)
      · rfl
    rw [h1]
    unfold const1 at h
    unfold pv1
    split
    · rfl
    · simp [simple] at h
    · split
      · rfl
      · rename_i h2 h3 h4
        split at h
        · exact absurd rfl (by assumption)
        · exact absurd h h4

/-- A new variable of a value. -/
theorem box_done {v : Value} {p : PV} {t : TypeId} (hs : ∀ (w : World) (b : Nat), SiteOk km w s b) (hi : Inv km cx K σ w) (hr : RepS km cx K σ w v p) (hok : okc p = true)
    (hrun : (execOp a.eval o).run P w = .ok (.value (.pointer (some ⟨w.heap.size, 0, none⟩))) (w.alloc (.cells v.cells t))) :
    OpDone km P cx K σ w o a (.bx s (σ.c s) (cellsOf p).length 0 0) (σ.new s ⟨(cellsOf p).length, [p], true, true⟩) := by
  obtain ⟨_, hc⟩ := rep_cells hr hok
  obtain ⟨h1, h2⟩ := inv_new (s := s) (b0 := w.heap.size) (x := ⟨(cellsOf p).length, [p], true, true⟩) hi (below_alloc_self w (.cells v.cells t)) (Nat.le_refl _) (by rw [size_alloc]; omega)
    (fun i e he => by
      have hi0 : i = 0 := by have := (List.getElem?_eq_some_iff.1 he).1; simp at this; exact this
      subst hi0; simp at he; subst he; rfl)
    (fun i j e q he hq => by
      have hi0 : i = 0 := by have := (List.getElem?_eq_some_iff.1 he).1; simp at this; exact this
      subst hi0; simp at he; subst he
      obtain ⟨u, q1, q2, q3⟩ := hc j q hq
      exact ⟨u, by rw [show 0 * (cellsOf p).length + j = j by omega, cell_alloc_self]; exact q1, q2, q3⟩)
    ⟨⟨_, _, _, heap_alloc_self w _⟩, fun off => frozen_alloc_self w _ _ off⟩ ⟨rfl, rfl⟩ (hs _ _)
  exact ⟨_, _, _, _, hrun, rfl, by simpa using Rep.bx (km := km) (L := (w.alloc (.cells v.cells t)).cell?) (S := Stab cx (Kput K s (σ.c s) w.heap.size) (σ.new s ⟨(cellsOf p).length, [p], true, true⟩) (w.alloc (.cells v.cells t))) (K := Kput K s (σ.c s) w.heap.size) s (σ.c s) (cellsOf p).length 0 0 w.heap.size Kput_new, h1, h2⟩

theorem d_box {t : TypeId} {x : Operand} (hs : Plain s) (hA : LinkOk km A) (hf : FrR km cx K σ w a.tmps fr) (hi : Inv km cx K σ w) (ho : o.op = .box t x) (hc : compO P A o = some po) (he : evO E s fr σ po = some (r, σ')) : OpDone km P cx K σ w o a r σ' := by
  simp only [compO, ho] at hc
  obtain ⟨x', h1, rfl⟩ := Option.map_eq_some_iff.1 hc
  have r1 := opnd_rep hA hf h1
  simp only [evO] at he
  split at he
  · rename_i hok
    simp only [Option.some.injEq, Prod.mk.injEq] at he
    obtain ⟨rfl, rfl⟩ := he
    exact box_done (t := t) (s := 2000000 + s) (fun _ _ => hs.bsite) hi r1 hok (by simp [execOp, ho, Instr.box, newVar, newRow, newObj]; rfl)
  · cases he

theorem d_alloc {t : TypeId} (hs : Plain s) (hA : LinkOk km A) (hi : Inv km cx K σ w) (ho : o.op = .alloc t) (hc : compO P A o = some po) (he : evO E s fr σ po = some (r, σ')) : OpDone km P cx K σ w o a r σ' := by
  simp only [compO, ho] at hc
  split at hc
  · rename_i ht
    subst ht
    split at hc
    · rename_i hz
      simp only [Option.some.injEq] at hc
      subst hc
      have hz : zeroB P A.bt = some (.agg #[.pointer none, .slice none 0 0]) := by
        unfold bldZ at hz
        split at hz
        · rename_i cs h
          split at hz
          · rename_i h2
            rw [h]
            have : cs = #[.pointer none, .slice none 0 0] := by rw [← Array.toArray_toList (xs := cs), h2]
            rw [this]
          · cases hz
        · cases hz
      simp only [evO, Option.some.injEq, Prod.mk.injEq] at he
      obtain ⟨rfl, rfl⟩ := he
      have hrz : RepS km cx K σ w (.agg #[.pointer none, .slice none 0 0]) (.agg [.sc (.pointer none), .sc (.slice none 0 0)]) := by
        refine Rep.agg [.pointer none, .slice none 0 0] [.sc (.pointer none), .sc (.slice none 0 0)] rfl (fun v hv => ?_) (fun i v p hv hp => ?_)
        · simp only [List.mem_cons, List.not_mem_nil, or_false] at hv
          rcases hv with rfl | rfl <;> rfl
        · match i with
          | 0 => simp only [List.getElem?_cons_zero, Option.some.injEq] at hv hp; subst hv; subst hp; exact .sc _ rfl
          | 1 => simp only [List.getElem?_cons_zero, List.getElem?_cons_succ, Option.some.injEq] at hv hp; subst hv; subst hp; exact .sc _ rfl
          | i + 2 => simp at hv
      obtain ⟨_, hc⟩ := rep_cells hrz rfl
      obtain ⟨h1, h2⟩ := inv_new (s := bldAt) (b0 := w.heap.size) (x := ⟨2, [.agg [.sc (.pointer none), .sc (.slice none 0 0)]], true, true⟩) hi (below_alloc_self w (.cells #[.pointer none, .slice none 0 0] A.bt)) (Nat.le_refl _) (by rw [size_alloc]; omega)
        (fun i e he => by
          have hi0 : i = 0 := by have := (List.getElem?_eq_some_iff.1 he).1; simp at this; exact this
          subst hi0; simp at he; subst he; rfl)
        (fun i j e q he hq => by
          have hi0 : i = 0 := by have := (List.getElem?_eq_some_iff.1 he).1; simp at this; exact this
          subst hi0; simp at he; subst he
          obtain ⟨u, q1, q2, q3⟩ := hc j q hq
          exact ⟨u, by rw [show 0 * 2 + j = j by omega, cell_alloc_self]; exact q1, q2, q3⟩)
        ⟨⟨_, _, _, heap_alloc_self w _⟩, fun off => frozen_alloc_self w _ _ off⟩ ⟨rfl, rfl⟩ ⟨fun _ => by unfold World.shape?; rw [heap_alloc_self, hA.bt]; rfl, fun h => by cases h⟩
      refine ⟨.value (.pointer (some ⟨w.heap.size, 0, none⟩)), _, w.alloc (.cells #[.pointer none, .slice none 0 0] A.bt), _, by simp [execOp, ho, Instr.alloc, newVar, newRow, newObj, run_zero hz]; rfl, rfl, ?_, h1, h2⟩
      simpa using Rep.bx (km := km) (L := (w.alloc (.cells #[.pointer none, .slice none 0 0] A.bt)).cell?) (S := Stab cx (Kput K bldAt (σ.c bldAt) w.heap.size) (σ.new bldAt ⟨2, [.agg [.sc (.pointer none), .sc (.slice none 0 0)]], true, true⟩) (w.alloc (.cells #[.pointer none, .slice none 0 0] A.bt))) bldAt (σ.c bldAt) 2 0 0 w.heap.size Kput_new
    · cases hc
  · obtain ⟨z, hz, hc⟩ := Option.bind_eq_some_iff.1 hc
    obtain ⟨z', hz', rfl⟩ := Option.map_eq_some_iff.1 hc
    unfold pickZero at hz'
    split at hz'
    · rename_i hok
      simp only [Option.some.injEq] at hz'
      subst hz'
      simp only [evO, pa, okc_pv hok, if_true, Option.some.injEq, Prod.mk.injEq] at he
      obtain ⟨rfl, rfl⟩ := he
      exact box_done (t := t) (s := 2000000 + s) (fun _ _ => hs.bsite) hi (rep_pv hok) (okc_pv hok) (by simp [execOp, ho, Instr.alloc, newVar, newRow, newObj, run_zero hz]; rfl)
    · cases hz'

theorem mn1_run {mx : Bool} {u v : Value} {p q z : PV} {L : Addr → Option Value} {S : Addr → Prop} (hu : Rep km L S K u p) (hv : Rep km L S K v q) (h : mn1 mx p q = some z) :
    ∃ x, (if mx then Builtin.max2 u v else Builtin.min2 u v).run P w = .ok x w ∧ Rep km L S K x z := by
  unfold mn1 at h
  split at h
  · split at h
    · rename_i k x k' y hk
      subst hk
      simp only [Option.some.injEq] at h
      subst h
      obtain ⟨rfl, _⟩ := hu.inv_sc
      obtain ⟨rfl, _⟩ := hv.inv_sc
      cases mx
      · exact ⟨_, by simp [Builtin.min2], .sc _ rfl⟩
      · exact ⟨_, by simp [Builtin.max2], .sc _ rfl⟩
    · cases h
  · cases h

theorem mnmx_run {mx : Bool} {L : Addr → Option Value} {S : Addr → Prop} : ∀ (vs : List Value) (ps : List PV) (u : Value) (p z : PV), Rep km L S K u p → vs.length = ps.length → (∀ (i : Nat) v p, vs[i]? = some v → ps[i]? = some p → Rep km L S K v p) → ps.foldlM (mn1 mx) p = some z →
    ∃ x, (vs.foldlM (if mx then Builtin.max2 else Builtin.min2) u).run P w = .ok x w ∧ Rep km L S K x z
  | [], ps, u, p, z, hu, hl, _, h => by
    have : ps = [] := List.eq_nil_of_length_eq_zero (by simpa using hl.symm)
    subst this
    simp at h
    subst h
    exact ⟨u, by simp, hu⟩
  | v :: vs, ps, u, p, z, hu, hl, hr, h => by
    cases ps with
    | nil => simp at hl
    | cons q ps =>
      simp only [List.foldlM_cons, Option.bind_eq_bind] at h
      obtain ⟨y, hy, h⟩ := Option.bind_eq_some_iff.1 h
      obtain ⟨x, hx, rx⟩ := mn1_run (P := P) (w := w) hu (hr 0 v q rfl rfl) hy
      obtain ⟨x', hx', rx'⟩ := mnmx_run vs ps x y z rx (by simpa using hl) (fun i v p h1 h2 => hr (i + 1) v p (by simpa using h1) (by simpa using h2)) h
      refine ⟨x', ?_, rx'⟩
      cases mx <;> simp_all [List.foldlM_cons]

theorem d_mnmx {c : Call} {mx : Bool} (hA : LinkOk km A) (hf : FrR km cx K σ w a.tmps fr) (hi : Inv km cx K σ w) (ho : o.op = .call c) (hcl : c.callee = .builtin (if mx then .max else .min)) (hc : compO P A o = some po) (he : evO E s fr σ po = some (r, σ')) : OpDone km P cx K σ w o a r σ' := by
  have hc' : (opnds A c.args).map (PO.mnmx mx) = some po := by
    cases mx <;> simpa only [compO, ho, compCall, hcl, if_true, Bool.false_eq_true, if_false] using hc
  obtain ⟨xs', h1, rfl⟩ := Option.map_eq_some_iff.1 hc'
  obtain ⟨l1, q1⟩ := opnds_rep hA hf h1
  simp only [evO] at he
  obtain ⟨z, hz, he⟩ := Option.map_eq_some_iff.1 he
  simp only [Prod.mk.injEq] at he
  obtain ⟨rfl, rfl⟩ := he
  generalize hvs : c.args.toList.map a.eval = vs at l1 q1
  generalize hps : xs'.map (pa fr) = ps at l1 q1 hz
  cases ps with
  | nil => simp [mnmx] at hz
  | cons p ps =>
    cases vs with
    | nil => simp at l1
    | cons v vs =>
      simp only [mnmx] at hz
      obtain ⟨x, hx, rx⟩ := mnmx_run (P := P) (w := w) vs ps v p z (q1 0 v p rfl rfl) (by simpa using l1) (fun i v p h1 h2 => q1 (i + 1) v p (by simpa using h1) (by simpa using h2)) hz
      refine OpDone.val hi ?_ rx
      have hargs : (c.args.map a.eval).toList = v :: vs := by simpa using hvs
      cases mx
      · simp only [Bool.false_eq_true, if_false] at hcl hx
        simp [execOp, ho, resolve, hcl, invoke, builtin, Builtin.min_, hvs, hx]
      · simp only [if_true] at hcl hx
        simp [execOp, ho, resolve, hcl, invoke, builtin, Builtin.max_, hvs, hx]

/-- Where a pointer leads. -/
theorem deref_rep {v : Value} {p e : PV} {j : Nat} (hi : Inv km cx K σ w) (h : RepS km cx K σ w v p) (hd : deref σ p = some (e, j)) :
    ∃ b off, v = .pointer (some ⟨b, off + j, none⟩) ∧ ∀ (k : Nat) q, (cellsOf e)[k]? = some q → ∃ u, w.cell? ⟨b, off + k, none⟩ = some u ∧ u.oneCell' = true ∧ RepS km cx K σ w u q := by
  unfold deref at hd
  split at hd
  · rename_i xs i j'
    obtain ⟨e', he, hd⟩ := Option.map_eq_some_iff.1 hd
    simp only [Prod.mk.injEq] at hd
    obtain ⟨rfl, rfl⟩ := hd
    cases h with
    | fp b off es _ _ _ us h1 h2 h3 h4 =>
      refine ⟨b, off + i * es, by rw [Nat.add_assoc], fun k q hq => ?_⟩
      have hk : k < es := by rw [← h3 i e' he]; exact (List.getElem?_eq_some_iff.1 hq).1
      obtain ⟨c1, _, c3⟩ := h2 i k (List.getElem?_eq_some_iff.1 he).1 hk
      exact ⟨us i k, by rw [Nat.add_assoc]; exact c1, c3, h4 i k e' q he hq⟩
  · rename_i o1 g1 es i j'
    split at hd
    · rename_i x hx
      split at hd
      · rename_i hes
        subst hes
        obtain ⟨e', he, hd⟩ := Option.map_eq_some_iff.1 hd
        simp only [Prod.mk.injEq] at hd
        obtain ⟨rfl, rfl⟩ := hd
        cases h with
        | bx _ _ _ _ _ b hk =>
          obtain ⟨b', hk', hcells⟩ := hi.dom _ _ _ hx
          obtain rfl : b' = b := by rw [hk] at hk'; simpa using hk'.symm
          refine ⟨b', i * x.es, rfl, fun k q hq => ?_⟩
          obtain ⟨u, c1, c2, c3, _⟩ := hcells.cell i k e' q he hq
          exact ⟨u, c1, c2, c3⟩
      · cases hd
    · cases hd
  · cases hd

theorem d_ld {t : TypeId} {x : Operand} (hA : LinkOk km A) (hf : FrR km cx K σ w a.tmps fr) (hi : Inv km cx K σ w) (ho : o.op = .load t x) (hc : compO P A o = some po) (he : evO E s fr σ po = some (r, σ')) : OpDone km P cx K σ w o a r σ' := by
  simp only [compO, ho] at hc
  obtain ⟨q, hq, hc⟩ := Option.bind_eq_some_iff.1 hc
  obtain ⟨x', h1, rfl⟩ := Option.map_eq_some_iff.1 hc
  have r1 := opnd_rep hA hf h1
  simp only [evO] at he
  obtain ⟨⟨e, j⟩, hd, he⟩ := Option.bind_eq_some_iff.1 he
  obtain ⟨b, off, hv, hcells⟩ := deref_rep hi r1 hd
  rcases loadB_some hq with ⟨rfl, hag⟩ | ⟨n, rfl, hag, hsz⟩
  · simp only at he
    obtain ⟨p, hp, he⟩ := Option.map_eq_some_iff.1 he
    simp only [Prod.mk.injEq] at he
    obtain ⟨rfl, rfl⟩ := he
    obtain ⟨u, c1, c2, c3⟩ := hcells j p hp
    refine OpDone.val (v := u) hi ?_ c3
    simp [execOp, ho, hv, Instr.loadAt, Instr.sureAddr, loadVar, run_agg hag, c1]
  · simp only at he
    split at he
    · rename_i hle
      simp only [Option.some.injEq, Prod.mk.injEq] at he
      obtain ⟨rfl, rfl⟩ := he
      obtain ⟨us, hlen, hus⟩ := list_of (n := n) (p := fun k u => w.cell? ⟨b, off + j + k, none⟩ = some u ∧ u.oneCell' = true ∧ ∀ q, (cellsOf e)[j + k]? = some q → RepS km cx K σ w u q) fun k hk => by
        obtain ⟨u, c1, c2, c3⟩ := hcells (j + k) _ (List.getElem?_eq_getElem (show j + k < (cellsOf e).length by omega))
        refine ⟨u, by rw [Nat.add_assoc]; exact c1, c2, fun q hq => ?_⟩
        rw [List.getElem?_eq_getElem (show j + k < (cellsOf e).length by omega)] at hq
        simp only [Option.some.injEq] at hq
        rw [← hq]; exact c3
      unfold aggB at hag
      have hrun : (loadVar t ⟨b, off + j, none⟩).run P w = .ok (.agg us.toArray) w := by
        have hz : (P.info? t).map (·.size) = some us.length := by rw [hlen]; exact hsz
        split at hag
        · rename_i hu
          exact run_loadVar_mid w b (off + j) t us _ (fun k v hk => (hus k v hk).1) hu rfl hz
        · rename_i hu
          exact run_loadVar_mid w b (off + j) t us _ (fun k v hk => (hus k v hk).1) hu rfl hz
        · simp at hag
        · cases hag
      refine OpDone.val (v := .agg us.toArray) hi ?_ (.agg us _ (by simp [hlen]; omega) (fun v hv' => ?_) fun k v p hk hp => ?_)
      · simp [execOp, ho, hv, Instr.loadAt, Instr.sureAddr, hrun]
      · obtain ⟨k, hk⟩ := List.getElem?_of_mem hv'
        exact (hus k v hk).2.1
      · rw [List.getElem?_take] at hp
        split at hp
        · rw [List.getElem?_drop] at hp
          exact (hus k v hk).2.2 p hp
        · cases hp
    · cases he

end
end Go.Proofs.YtcpgkdaicglogaaGreatDoorPv
