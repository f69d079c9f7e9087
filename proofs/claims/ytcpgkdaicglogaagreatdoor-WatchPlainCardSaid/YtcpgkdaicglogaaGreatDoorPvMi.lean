/-
Interfaces: values that stand behind them.
-/
import Derived.Test.YtcpgkdaicglogaaGreatDoorPvMm
namespace Go.Proofs.YtcpgkdaicglogaaGreatDoorPv
open Go Go.RowKit

section
variable {km : Km} {P : Program} {A : Ann} {cx : Cx km} {K : Nat → Nat → Option Nat} {σ σ' : St} {w : World} {E : Ev} {s : Nat} {fr : Fr} {a : Act} {o : Oper} {po : PO} {r : PV}

theorem d_mki {t : TypeId} {x : Operand} (hA : LinkOk km A) (hf : FrR km cx K σ w a.tmps fr) (hi : Inv km cx K σ w) (ho : o.op = .makeInterface t x) (hc : compO P A o = some po) (he : evO E s fr σ po = some (r, σ')) : OpDone km P cx K σ w o a r σ' := by
  simp only [compO, ho] at hc
  split at hc
  · cases hc
  · rename_i u hne hu
    obtain ⟨x', h1, rfl⟩ := Option.map_eq_some_iff.1 hc
    simp only [evO, Option.some.injEq, Prod.mk.injEq] at he
    obtain ⟨rfl, rfl⟩ := he
    refine OpDone.val (v := .iface t (a.eval x)) hi ?_ (.ifc _ _ _ (opnd_rep hA hf h1))
    have : (Instr.makeInterface t (a.eval x)).run P w = .ok (.iface t (a.eval x)) w := by
      unfold Instr.makeInterface
      rw [Sem.run_bind, run_underlying hu]
      simp only [Result.andThen_ok]
      first
        | (cases u <;> first | exact absurd rfl (hne _) | rfl)
        | (cases u <;> first | rfl | (exfalso; exact hne _ rfl))
    simp only [execOp, ho]
    rw [Sem.run_bind, this]
    rfl
  · cases hc

theorem rep_pair {L : Addr → Option Value} {S : Addr → Prop} {v : Value} {p : PV} (b : Bool) (h : Rep km L S K v p) : Rep km L S K (.tuple #[v, .bool b]) (.tu [p, .sc (.bool b)]) := by
  refine .tu [v, .bool b] _ rfl fun i u p' hu hp' => ?_
  match i with
  | 0 => simp at hu hp'; subst hu; subst hp'; exact h
  | 1 => simp at hu hp'; subst hu; subst hp'; exact .sc _ rfl
  | i + 2 => simp at hu

theorem d_tas {t t0 : TypeId} {x : Operand} {ok : Bool} (hA : LinkOk km A) (hf : FrR km cx K σ w a.tmps fr) (hi : Inv km cx K σ w) (ho : o.op = .typeAssert x t0 t ok) (hc : compO P A o = some po) (he : evO E s fr σ po = some (r, σ')) : OpDone km P cx K σ w o a r σ' := by
  simp only [compO, ho] at hc
  split at hc
  · cases hc
  · rename_i u hne hu
    obtain ⟨z0, hz0, hc⟩ := Option.bind_eq_some_iff.1 hc
    obtain ⟨z, hz, hc⟩ := Option.bind_eq_some_iff.1 hc
    obtain ⟨x', h1, rfl⟩ := Option.map_eq_some_iff.1 hc
    unfold pickZero at hz
    split at hz
    · rename_i hzok
      simp only [Option.some.injEq] at hz
      subst hz
      have r1 := opnd_rep hA hf h1
      have hrz := run_zero (w := w) hz0
      have fail : ok = true → (Instr.typeAssert (a.eval x) t0 t ok).run P w = .ok (.tuple #[z0, .bool false]) w → OpDone km P cx K σ w o a (.tu [pv z0, .sc (.bool false)]) σ := by
        intro _ hrun
        exact OpDone.val hi (v := .tuple #[z0, .bool false]) (by simp [execOp, ho]; rw [hrun]; rfl) (rep_pair false (rep_pv hzok))
      simp only [evO] at he
      split at he
      · rename_i hx
        rw [hx] at r1
        have hv := r1.inv_sc.1
        split at he
        · rename_i hok
          simp only [Option.some.injEq, Prod.mk.injEq] at he
          obtain ⟨rfl, rfl⟩ := he
          refine fail hok ?_
          rw [hv]
          subst hok
          unfold Instr.typeAssert
          rw [Sem.run_bind, run_underlying hu]
          simp only [Result.andThen_ok]
          cases u <;> first | (exfalso; exact hne _ rfl) | simp [hrz, Result.andThen]
        · cases he
      · rename_i t' p hx
        rw [hx] at r1
        generalize hev : a.eval x = v at r1 fail
        cases r1 with
        | ifc _ v p hr =>
          split at he
          · rename_i htt
            subst htt
            simp only [Option.some.injEq, Prod.mk.injEq] at he
            obtain ⟨rfl, rfl⟩ := he
            have hrun : (Instr.typeAssert (.iface t' v) t0 t' ok).run P w = .ok (if ok then .tuple #[v, .bool true] else v) w := by
              unfold Instr.typeAssert
              rw [Sem.run_bind, run_underlying hu]
              simp only [Result.andThen_ok]
              cases u <;> first | (exfalso; exact hne _ rfl) | (cases ok <;> simp)
            cases ok with
            | true => exact OpDone.val hi (v := .tuple #[v, .bool true]) (by simp [execOp, ho, hev]; rw [hrun]; rfl) (rep_pair true hr)
            | false => exact OpDone.val hi (v := v) (by simp [execOp, ho, hev]; rw [hrun]; rfl) hr
          · rename_i htt
            split at he
            · rename_i hok
              simp only [Option.some.injEq, Prod.mk.injEq] at he
              obtain ⟨rfl, rfl⟩ := he
              refine fail hok ?_
              subst hok
              unfold Instr.typeAssert
              rw [Sem.run_bind, run_underlying hu]
              simp only [Result.andThen_ok]
              cases u <;> first | (exfalso; exact hne _ rfl) | simp [hrz, Result.andThen, htt]
            · cases he
      · cases he
    · cases hz
  · cases hc

theorem tblB_mem {name : String} {t k : Nat} (h : (tblB P A name).lookup t = some k) : ∃ f, methB P t name = some f ∧ A.rk f = some k := by
  unfold tblB at h
  have : ∀ l : List TypeId, (l.filterMap fun t => (methB P t name).bind fun f => (A.rk f).map fun k => (t, k)).lookup t = some k → ∃ f, methB P t name = some f ∧ A.rk f = some k := by
    intro l
    induction l with
    | nil => intro h; simp at h
    | cons x l ih =>
      intro h
      rw [List.filterMap_cons] at h
      split at h
      · exact ih h
      · rename_i q hq
        obtain ⟨f, hf, hq⟩ := Option.bind_eq_some_iff.1 hq
        obtain ⟨k', hk, rfl⟩ := Option.map_eq_some_iff.1 hq
        rw [List.lookup_cons] at h
        split at h
        · rename_i he
          have he : t = x := by simpa using he
          subst he
          simp only [Option.some.injEq] at h
          subst h
          exact ⟨f, hf, hk⟩
        · exact ih h
  exact this _ h

theorem method_run {t : TypeId} {v : Value} {name : String} {f : FuncId} (h : methB P t name = some f) : (method (P.types.size + Made.depth) t v name).run P w = .ok (f, v) w := by
  unfold methB at h
  obtain ⟨i, hi, h⟩ := Option.bind_eq_some_iff.1 h
  obtain ⟨m, hm, h⟩ := Option.bind_eq_some_iff.1 h
  split at h
  · rename_i hp
    obtain ⟨⟨f', ptr⟩, hf, h⟩ := Option.bind_eq_some_iff.1 h
    have hd : 0 < Made.depth := by decide
    obtain ⟨n, hn⟩ : ∃ n, P.types.size + Made.depth = n + 1 := ⟨P.types.size + Made.depth - 1, by omega⟩
    have hpath : m.path.toList = [] := by simpa [Array.isEmpty] using hp
    rw [hn]
    unfold method
    rw [Sem.run_bind, run_typeInfo w hi]
    simp only [Result.andThen_ok, hm, hpath, follow, Sem.run_bind, Sem.run_pure, hf, hp, if_true]
    simp only at h
    split at h
    · rename_i e hu
      split at h
      · rename_i hptr
        simp only [Option.some.injEq] at h
        subst h
        have hptr : ptr = true := hptr
        subst hptr
        simp [receiverAt, run_underlying hu, Place.get, Result.andThen]
      · cases h
    · rename_i u hne hu
      split at h
      · cases h
      · rename_i hptr
        simp only [Option.some.injEq] at h
        subst h
        have hptr : ptr = false := by simpa using hptr
        subst hptr
        have : (receiverAt t (.val v) false (some ((name.splitOn ".").getLastD name))).run P w = .ok v w := by
          unfold receiverAt
          rw [Sem.run_bind, run_underlying hu]
          simp only [Result.andThen_ok]
          cases u <;> first | (exfalso; exact hne _ rfl) | simp [Place.get]
        rw [this]
        rfl
    · cases h
  · cases h

/-- What a call of an interface's method leads to. -/
theorem upon_inv {f : FuncId} {k t : Nat} {v : Value} {x : Operand} {name : String} {c : Call} {next : Act → World → Prop} {Q : Exit → Act → World → Prop} (ho : o.op = .call c) (hcl : c.callee = .invoke x name) (hx : a.eval x = .iface t v) (hm : methB P t name = some f) (hk : km k = f)
    (h : Open P (km k) ∧ Calls P (km k) (v :: (c.args.toList.map a.eval)).toArray w (CallDone km cx K σ w r σ'))
    (hn : ∀ v w' K', RepS km cx K' σ' w' v r → Inv km cx K' σ' w' → Ext cx K σ w K' σ' w' → next (a.put o.dst v) w') : o.wp P a w next Q := by
  obtain ⟨h1, h2⟩ := h
  subst hk
  have hargs : #[v] ++ c.args.map a.eval = (v :: (c.args.toList.map a.eval)).toArray := by
    apply Array.ext'
    simp
  have hrun : (execOp a.eval o).run P w = .ok (.enter (km k) (v :: (c.args.toList.map a.eval)).toArray) w := by
    have hcf := callFunc_run (P := P) (w := w) (f := km k) (args := #[v] ++ c.args.map a.eval) h1
    have hmr := method_run (P := P) (w := w) (v := v) hm
    rw [hargs] at hcf
    have e0 : (#[Value.iface t v] ++ c.args.map a.eval)[0]? = some (.iface t v) := by rw [Array.getElem?_append_left (by simp)]; rfl
    have e1 : (#[Value.iface t v] ++ c.args.map a.eval).extract 1 (#[Value.iface t v] ++ c.args.map a.eval).size = c.args.map a.eval := by
      apply Array.ext'
      simp
      exact List.take_of_length_le (by simp)
    simp only [execOp, ho, resolve, hcl, hx, Sem.run_bind, Sem.run_pure, Result.andThen_ok, invoke, e0, e1, callMethod, run_program, hmr, hargs]
    exact hcf
  unfold Oper.wp
  rw [hrun, Oper.upon_enter]
  refine h2.mono ?_
  rintro e w' ⟨v, K', rfl, q1, q2, q3⟩
  exact hn v w' K' q1 q2 q3

end
end Go.Proofs.YtcpgkdaicglogaaGreatDoorPv
