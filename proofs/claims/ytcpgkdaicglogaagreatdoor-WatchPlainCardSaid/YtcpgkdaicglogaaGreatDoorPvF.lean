/-
Operations that leave memory alone, each for itself.
-/
import Derived.Test.YtcpgkdaicglogaaGreatDoorPvE
namespace Go.Proofs.YtcpgkdaicglogaaGreatDoorPv
open Go Go.RowKit

section
variable {km : Km} {P : Program} {A : Ann} {cx : Cx km} {K : Nat → Nat → Option Nat} {σ σ' : St} {w : World} {E : Ev} {s : Nat} {fr : Fr} {a : Act} {o : Oper} {po : PO} {r : PV}

theorem d_mv {x : Operand} (hA : LinkOk km A) (hf : FrR km cx K σ w a.tmps fr) (hi : Inv km cx K σ w) (ho : o.op = .move x ∨ o.op = .assign x) (hc : compO P A o = some po) (he : evO E s fr σ po = some (r, σ')) : OpDone km P cx K σ w o a r σ' := by
  have : (opnd A x).map .mv = some po := by rcases ho with ho | ho <;> simpa only [compO, ho] using hc
  obtain ⟨x', hx, rfl⟩ := Option.map_eq_some_iff.1 this
  simp only [evO, Option.some.injEq, Prod.mk.injEq] at he
  obtain ⟨rfl, rfl⟩ := he
  exact OpDone.val hi (by rcases ho with ho | ho <;> simp [execOp, ho]) (opnd_rep hA hf hx)

theorem d_pick {c x y : Operand} (hA : LinkOk km A) (hf : FrR km cx K σ w a.tmps fr) (hi : Inv km cx K σ w) (ho : o.op = .pick c x y) (hc : compO P A o = some po) (he : evO E s fr σ po = some (r, σ')) : OpDone km P cx K σ w o a r σ' := by
  simp only [compO, ho] at hc
  obtain ⟨c', h1, hc⟩ := Option.bind_eq_some_iff.1 hc
  obtain ⟨x', h2, hc⟩ := Option.bind_eq_some_iff.1 hc
  obtain ⟨y', h3, rfl⟩ := Option.map_eq_some_iff.1 hc
  have rc := opnd_rep hA hf h1
  simp only [evO] at he
  split at he
  · rename_i t ht
    rw [ht] at rc
    have hb := rc.inv_bool
    simp only [Option.some.injEq, Prod.mk.injEq] at he
    obtain ⟨rfl, rfl⟩ := he
    cases t
    · exact OpDone.val (v := a.eval y) hi (by simp [execOp, ho, hb, asBool]) (by simpa using opnd_rep hA hf h3)
    · exact OpDone.val (v := a.eval x) hi (by simp [execOp, ho, hb, asBool]) (by simpa using opnd_rep hA hf h2)
  · cases he

theorem run_eq_nil {t : TypeId} {ms : Array (String × TypeId)} (ht : P.underlying t = some (.interface ms)) (d : Nat) (w : World) : (Op.equalIn (d + 1) t .nilIface .nilIface).run P w = .ok true w := by
  unfold Op.equalIn
  rw [Sem.run_bind, run_underlying ht]
  rfl
theorem run_eq_ifc {t : TypeId} {ms : Array (String × TypeId)} (ht : P.underlying t = some (.interface ms)) (d : Nat) (w : World) (t' : TypeId) (v : Value) : (Op.equalIn (d + 1) t (.iface t' v) .nilIface).run P w = .ok false w := by
  unfold Op.equalIn
  rw [Sem.run_bind, run_underlying ht]
  rfl

/-- Is an interface's value nil? -/
theorem inil_run {t : TypeId} {ms : Array (String × TypeId)} (ht : P.underlying t = some (.interface ms)) {neg : Bool} {v : Value} {x' : PA} (x : Operand) (hr : RepS km cx K σ w v (pa fr x'))
    (he : evO E s fr σ (.inil neg x') = some (r, σ')) :
    σ' = σ ∧ ∃ b : Bool, r = .sc (.bool b) ∧ ((do eqGuard (if neg then .neq else .eql) t x (.const .nilIface) v .nilIface; binOp (if neg then .neq else .eql) t v .nilIface : Sem Value)).run P w = .ok (.bool b) w := by
  simp only [evO] at he
  split at he
  · rename_i hp
    rw [hp] at hr
    have hv := hr.inv_sc.1
    subst hv
    simp only [Option.some.injEq, Prod.mk.injEq] at he
    refine ⟨he.2.symm, !neg, he.1.symm, ?_⟩
    have e9 := run_eq_nil ht 9999 w
    cases neg <;> simp [eqGuard, binOp, Op.equal, Op.maxDepth, e9]
  · rename_i t' p hp
    rw [hp] at hr
    cases hr with
    | ifc _ v _ hr =>
      simp only [Option.some.injEq, Prod.mk.injEq] at he
      refine ⟨he.2.symm, neg, he.1.symm, ?_⟩
      have e9 := run_eq_ifc ht 9999 w t' v
      cases neg <;> simp [eqGuard, binOp, Op.equal, Op.maxDepth, e9]
  · cases he

theorem d_bin {op : BinOp} {t t' : TypeId} {x y : Operand} (hA : LinkOk km A) (hf : FrR km cx K σ w a.tmps fr) (hi : Inv km cx K σ w) (ho : o.op = .binOp op t x y t') (hc : compO P A o = some po) (he : evO E s fr σ po = some (r, σ')) : OpDone km P cx K σ w o a r σ' := by
  simp only [compO, ho, compBin] at hc
  have plain : ∀ po', ((opnd A x).bind fun x' => (opnd A y).map fun y' => PO.bin op x' y') = some po' → evO E s fr σ po' = some (r, σ') → OpDone km P cx K σ w o a r σ' := by
    intro po' hc he
    obtain ⟨x', h1, hc⟩ := Option.bind_eq_some_iff.1 hc
    obtain ⟨y', h2, rfl⟩ := Option.map_eq_some_iff.1 hc
    have r1 := opnd_rep hA hf h1
    have r2 := opnd_rep hA hf h2
    simp only [evO] at he
    split at he
    · rename_i u v hu hv
      rw [hu] at r1
      rw [hv] at r2
      obtain ⟨q, hq, he⟩ := Option.map_eq_some_iff.1 he
      simp only [Prod.mk.injEq] at he
      obtain ⟨rfl, rfl⟩ := he
      obtain ⟨hrun, hs⟩ := pbin_run (P := P) (w := w) hq t x y
      refine OpDone.val (v := q) hi ?_ (.sc q hs)
      simp only [execOp, ho, r1.inv_sc.1, r2.inv_sc.1]
      rw [Sem.run_bind, hrun]
      rfl
    · cases he
  split at hc
  · exact plain po hc he
  · exact plain po hc he
  · rename_i ht
    have bl : ∀ neg : Bool, op = (if neg then .neq else .eql) → ∀ po', ((opnd A x).bind fun x' => (opnd A y).map fun y' => PO.beq neg x' y') = some po' → evO E s fr σ po' = some (r, σ') → OpDone km P cx K σ w o a r σ' := by
      intro neg hop po' hc he
      obtain ⟨x', h1, hc⟩ := Option.bind_eq_some_iff.1 hc
      obtain ⟨y', h2, rfl⟩ := Option.map_eq_some_iff.1 hc
      have r1 := opnd_rep hA hf h1
      have r2 := opnd_rep hA hf h2
      simp only [evO] at he
      split at he
      · rename_i u v hu hv
        rw [hu] at r1
        rw [hv] at r2
        simp only [Option.some.injEq, Prod.mk.injEq] at he
        obtain ⟨rfl, rfl⟩ := he
        refine OpDone.val (v := .bool ((u == v) != neg)) hi ?_ (.sc _ rfl)
        have e9 : (Op.equalIn 10000 t (.bool u) (.bool v)).run P w = .ok (u == v) w := run_equalIn_bool' w 9999 t u v ht
        cases neg <;> subst hop <;> simp [execOp, ho, r1.inv_sc.1, r2.inv_sc.1, eqGuard, binOp, Op.equal, Op.maxDepth, e9]
      · cases he
    split at hc
    · exact bl false rfl po hc he
    · exact bl true rfl po hc he
    · cases hc
  · rename_i fs ht
    obtain ⟨ks, hk, hc⟩ := Option.bind_eq_some_iff.1 hc
    split at hc
    · rename_i hg
      simp only [Bool.and_eq_true, Bool.not_eq_true'] at hg
      have st : ∀ neg : Bool, op = (if neg then .neq else .eql) → ∀ po', ((opnd A x).bind fun x' => (opnd A y).map fun y' => PO.eqs neg ks x' y') = some po' → evO E s fr σ po' = some (r, σ') → OpDone km P cx K σ w o a r σ' := by
        intro neg hop po' hc he
        obtain ⟨x', h1, hc⟩ := Option.bind_eq_some_iff.1 hc
        obtain ⟨y', h2, rfl⟩ := Option.map_eq_some_iff.1 hc
        have r1 := opnd_rep hA hf h1
        have r2 := opnd_rep hA hf h2
        simp only [evO] at he
        split at he
        · rename_i us vs hu hv
          rw [hu] at r1
          rw [hv] at r2
          obtain ⟨b, hb, he⟩ := Option.map_eq_some_iff.1 he
          simp only [Prod.mk.injEq] at he
          obtain ⟨rfl, rfl⟩ := he
          have hrun := eqs_run (neg := neg) (P := P) ht hk hg.1 hg.2 r1 r2 hb x y
          refine OpDone.val (v := .bool (b != neg)) hi ?_ (.sc _ rfl)
          simp only [execOp, ho, hop]
          rw [Sem.run_bind, hrun]
          rfl
        · cases he
      split at hc
      · exact st false rfl po hc he
      · exact st true rfl po hc he
      · cases hc
    · cases hc
  · rename_i n e ht
    obtain ⟨q, hk, hc⟩ := Option.bind_eq_some_iff.1 hc
    split at hc
    · rename_i hg
      simp only [Bool.and_eq_true, Bool.not_eq_true', beq_iff_eq] at hg
      have st : ∀ neg : Bool, op = (if neg then .neq else .eql) → ∀ po', ((opnd A x).bind fun x' => (opnd A y).map fun y' => PO.eqs neg (List.replicate n q) x' y') = some po' → evO E s fr σ po' = some (r, σ') → OpDone km P cx K σ w o a r σ' := by
        intro neg hop po' hc he
        obtain ⟨x', h1, hc⟩ := Option.bind_eq_some_iff.1 hc
        obtain ⟨y', h2, rfl⟩ := Option.map_eq_some_iff.1 hc
        have r1 := opnd_rep hA hf h1
        have r2 := opnd_rep hA hf h2
        simp only [evO] at he
        split at he
        · rename_i us vs hu hv
          rw [hu] at r1
          rw [hv] at r2
          obtain ⟨b, hb, he⟩ := Option.map_eq_some_iff.1 he
          simp only [Prod.mk.injEq] at he
          obtain ⟨rfl, rfl⟩ := he
          have hrun := eqa_run (neg := neg) (P := P) ht hk hg.1.1 hg.1.2 hg.2 r1 r2 hb x y
          refine OpDone.val (v := .bool (b != neg)) hi ?_ (.sc _ rfl)
          simp only [execOp, ho, hop]
          rw [Sem.run_bind, hrun]
          rfl
        · cases he
      split at hc
      · exact st false rfl po hc he
      · exact st true rfl po hc he
      · cases hc
    · cases hc
  · rename_i ms ht
    have nl : ∀ neg : Bool, y = .const .nilIface → op = (if neg then .neq else .eql) → ∀ po', (opnd A x).map (PO.inil neg) = some po' → evO E s fr σ po' = some (r, σ') → OpDone km P cx K σ w o a r σ' := by
      intro neg hy hop po' hc he
      obtain ⟨x', h1, rfl⟩ := Option.map_eq_some_iff.1 hc
      have r1 := opnd_rep hA hf h1
      obtain ⟨rfl, b, rfl, hrun⟩ := inil_run (P := P) ht x r1 he
      refine OpDone.val (v := .bool b) hi ?_ (.sc _ rfl)
      simp only [execOp, ho, hop, hy]
      rw [Sem.run_bind]
      erw [hrun]
      rfl
    split at hc
    · split at hc
      · exact nl false rfl rfl po hc he
      · exact nl true rfl rfl po hc he
      · cases hc
    · cases hc
  · cases hc

theorem d_un {op : UnOp} {t : TypeId} {x : Operand} (hA : LinkOk km A) (hf : FrR km cx K σ w a.tmps fr) (hi : Inv km cx K σ w) (ho : o.op = .unOp op t x) (hc : compO P A o = some po) (he : evO E s fr σ po = some (r, σ')) : OpDone km P cx K σ w o a r σ' := by
  simp only [compO, ho] at hc
  obtain ⟨x', h1, rfl⟩ := Option.map_eq_some_iff.1 hc
  have r1 := opnd_rep hA hf h1
  simp only [evO] at he
  split at he
  · rename_i u hu
    rw [hu] at r1
    obtain ⟨q, hq, he⟩ := Option.map_eq_some_iff.1 he
    simp only [Prod.mk.injEq] at he
    obtain ⟨rfl, rfl⟩ := he
    obtain ⟨hrun, hs⟩ := punary_run (P := P) (w := w) hq
    refine OpDone.val (v := q) hi ?_ (.sc q hs)
    simp [execOp, ho, r1.inv_sc.1, hrun]
  · cases he

theorem d_mkf {f : FuncId} {fst cap : Array Operand} (hA : LinkOk km A) (hf : FrR km cx K σ w a.tmps fr) (hi : Inv km cx K σ w) (ho : o.op = .makeFunc (.func f) fst cap) (hc : compO P A o = some po) (he : evO E s fr σ po = some (r, σ')) : OpDone km P cx K σ w o a r σ' := by
  simp only [compO, ho] at hc
  obtain ⟨k, hk, hc⟩ := Option.bind_eq_some_iff.1 hc
  obtain ⟨x', h1, hc⟩ := Option.bind_eq_some_iff.1 hc
  obtain ⟨y', h2, rfl⟩ := Option.map_eq_some_iff.1 hc
  simp only [evO, Option.some.injEq, Prod.mk.injEq] at he
  obtain ⟨rfl, rfl⟩ := he
  obtain ⟨l1, q1⟩ := opnds_rep hA hf h1
  obtain ⟨l2, q2⟩ := opnds_rep hA hf h2
  have hr := Rep.fn (km := km) (L := w.cell?) (S := Stab cx K σ w) (K := K) k _ _ _ _ l1 l2 q1 q2
  rw [hA.fn f k hk] at hr
  have e1 : (fst.toList.map a.eval).toArray = fst.map a.eval := by apply Array.ext'; simp
  have e2 : (cap.toList.map a.eval).toArray = cap.map a.eval := by apply Array.ext'; simp
  rw [e1, e2] at hr
  refine OpDone.val hi ?_ hr
  simp [execOp, ho, Instr.makeFunc]

theorem d_nck {x : Operand} (hA : LinkOk km A) (hf : FrR km cx K σ w a.tmps fr) (hi : Inv km cx K σ w) (ho : o.op = .nilCheck x) (hc : compO P A o = some po) (he : evO E s fr σ po = some (r, σ')) : OpDone km P cx K σ w o a r σ' := by
  simp only [compO, ho] at hc
  obtain ⟨x', h1, rfl⟩ := Option.map_eq_some_iff.1 hc
  have r1 := opnd_rep hA hf h1
  simp only [evO] at he
  split at he
  · rename_i hu
    rw [hu] at r1
    simp only [Option.some.injEq, Prod.mk.injEq] at he
    obtain ⟨rfl, rfl⟩ := he
    refine OpDone.val (v := a.eval x) hi ?_ r1
    generalize hv : a.eval x = v at r1
    cases r1
    simp [execOp, ho, hv]
  · rename_i hu
    rw [hu] at r1
    simp only [Option.some.injEq, Prod.mk.injEq] at he
    obtain ⟨rfl, rfl⟩ := he
    refine OpDone.val (v := a.eval x) hi ?_ r1
    generalize hv : a.eval x = v at r1
    cases r1
    simp [execOp, ho, hv]
  · rename_i hu
    rw [hu] at r1
    simp only [Option.some.injEq, Prod.mk.injEq] at he
    obtain ⟨rfl, rfl⟩ := he
    refine OpDone.val (v := a.eval x) hi ?_ r1
    generalize hv : a.eval x = v at r1
    cases r1
    simp [execOp, ho, hv]
  · cases he

theorem d_ext {x : Operand} {i : Nat} (hA : LinkOk km A) (hf : FrR km cx K σ w a.tmps fr) (hi : Inv km cx K σ w) (ho : o.op = .extract x i) (hc : compO P A o = some po) (he : evO E s fr σ po = some (r, σ')) : OpDone km P cx K σ w o a r σ' := by
  simp only [compO, ho] at hc
  obtain ⟨x', h1, rfl⟩ := Option.map_eq_some_iff.1 hc
  have r1 := opnd_rep hA hf h1
  simp only [evO] at he
  split at he
  · rename_i vs hu
    rw [hu] at r1
    obtain ⟨p, hp, he⟩ := Option.map_eq_some_iff.1 he
    simp only [Prod.mk.injEq] at he
    obtain ⟨rfl, rfl⟩ := he
    generalize hv : a.eval x = v at r1
    cases r1 with
    | tu cs ps h1 h2 =>
      obtain ⟨u, hu, ru⟩ := agg_get h1 h2 hp
      refine OpDone.val (v := u) hi ?_ ru
      simp [execOp, ho, hv, Instr.extract, hu]
  · cases he

theorem d_ix {t : TypeId} {x i : Operand} (hA : LinkOk km A) (hf : FrR km cx K σ w a.tmps fr) (hi : Inv km cx K σ w) (ho : o.op = .index t x i) (hc : compO P A o = some po) (he : evO E s fr σ po = some (r, σ')) : OpDone km P cx K σ w o a r σ' := by
  simp only [compO, ho] at hc
  split at hc
  · rename_i ht
    obtain ⟨x', h1, hc⟩ := Option.bind_eq_some_iff.1 hc
    obtain ⟨i', h2, rfl⟩ := Option.map_eq_some_iff.1 hc
    have r1 := opnd_rep hA hf h1
    have r2 := opnd_rep hA hf h2
    simp only [evO] at he
    split at he
    · rename_i b k n hu hv
      rw [hu] at r1
      rw [hv] at r2
      split at he
      · rename_i h0
        obtain ⟨c, hc, he⟩ := Option.map_eq_some_iff.1 he
        simp only [Prod.mk.injEq] at he
        obtain ⟨rfl, rfl⟩ := he
        refine OpDone.val (v := .int .u8 c.toNat) hi ?_ (.sc _ rfl)
        have hb : b[n.toNat]? = some c := by
          have hlt := (List.getElem?_eq_some_iff.1 hc).1
          have : n.toNat < b.size := by simpa using hlt
          have h3 := (List.getElem?_eq_some_iff.1 hc).2
          rw [getElem?_pos b n.toNat this]
          exact congrArg some (by simp at h3; exact h3)
        simp [execOp, ho, r1.inv_sc.1, r2.inv_sc.1, Instr.index, asIntOf, run_underlying ht, h0, hb]
      · cases he
    · cases he
  · rename_i len e ht
    obtain ⟨es, hs, hc⟩ := Option.bind_eq_some_iff.1 hc
    obtain ⟨q, hq, hc⟩ := Option.bind_eq_some_iff.1 hc
    obtain ⟨x', h1, hc⟩ := Option.bind_eq_some_iff.1 hc
    obtain ⟨i', h2, rfl⟩ := Option.map_eq_some_iff.1 hc
    have r1 := opnd_rep hA hf h1
    have r2 := opnd_rep hA hf h2
    simp only [evO] at he
    split at he
    · rename_i cs k n hu hv
      rw [hu] at r1
      rw [hv] at r2
      obtain ⟨us, hus, l1, o1, q1⟩ := r1.inv_agg
      split at he
      · rename_i hn
        rcases loadB_some hq with ⟨rfl, hag⟩ | ⟨m, rfl, hag, hsz⟩
        · simp only at he
          obtain ⟨p, hp, he⟩ := Option.map_eq_some_iff.1 he
          simp only [Prod.mk.injEq] at he
          obtain ⟨rfl, rfl⟩ := he
          obtain ⟨u, hu, ru⟩ := agg_get l1 q1 hp
          refine OpDone.val (v := u) hi ?_ ru
          have hpart : (part e us.toArray (n.toNat * es)).run P w = .ok u w := run_part1 hag (by simpa using hu)
          simp [execOp, ho, hus, r2.inv_sc.1, Instr.index, asIntOf, run_underlying ht, hn, run_size hs, hpart]
        · simp only at he
          split at he
          · rename_i hle
            simp only [Option.some.injEq, Prod.mk.injEq] at he
            obtain ⟨rfl, rfl⟩ := he
            refine OpDone.val (v := .agg (us.toArray.extract (n.toNat * es) (n.toNat * es + m))) hi ?_ ?_
            · have hpart : (part e us.toArray (n.toNat * es)).run P w = .ok (.agg (us.toArray.extract (n.toNat * es) (n.toNat * es + m))) w := by
                simp [part, run_agg hag, run_size hsz]
              simp [execOp, ho, hus, r2.inv_sc.1, Instr.index, asIntOf, run_underlying ht, hn, run_size hs, hpart]
            · have hx : us.toArray.extract (n.toNat * es) (n.toNat * es + m) = ((us.drop (n.toNat * es)).take m).toArray := by
                simp [List.extract_toArray]
              rw [hx]
              refine .agg _ _ (by simp [l1]) (fun v hv => o1 v (List.mem_of_mem_drop (List.mem_of_mem_take hv))) (fun i v p hv hp => ?_)
              rw [List.getElem?_take] at hv hp
              by_cases hlt : i < m
              · rw [if_pos hlt, List.getElem?_drop] at hv hp
                exact q1 _ _ _ hv hp
              · rw [if_neg hlt] at hv; cases hv
          · cases he
      · cases he
    · cases he
  · cases hc

theorem d_fld {t : TypeId} {x : Operand} {i : Nat} (hA : LinkOk km A) (hf : FrR km cx K σ w a.tmps fr) (hi : Inv km cx K σ w) (ho : o.op = .field t x i) (hc : compO P A o = some po) (he : evO E s fr σ po = some (r, σ')) : OpDone km P cx K σ w o a r σ' := by
  simp only [compO, ho] at hc
  split at hc
  · rename_i fs ht
    obtain ⟨fd, hfd, hc⟩ := Option.bind_eq_some_iff.1 hc
    obtain ⟨q, hq, hc⟩ := Option.bind_eq_some_iff.1 hc
    obtain ⟨x', h1, rfl⟩ := Option.map_eq_some_iff.1 hc
    have r1 := opnd_rep hA hf h1
    simp only [evO] at he
    split at he
    · rename_i cs hu
      rw [hu] at r1
      obtain ⟨us, hus, l1, o1, q1⟩ := r1.inv_agg
      rcases loadB_some hq with ⟨rfl, hag⟩ | ⟨m, rfl, hag, hsz⟩
      · simp only at he
        obtain ⟨p, hp, he⟩ := Option.map_eq_some_iff.1 he
        simp only [Prod.mk.injEq] at he
        obtain ⟨rfl, rfl⟩ := he
        obtain ⟨u, hu, ru⟩ := agg_get l1 q1 hp
        refine OpDone.val (v := u) hi ?_ ru
        have hpart : (part fd.type us.toArray fd.offset).run P w = .ok u w := run_part1 hag (by simpa using hu)
        simp [execOp, ho, hus, Instr.field, run_underlying ht, hfd, asAgg, hpart]
      · simp only at he
        split at he
        · rename_i hle
          simp only [Option.some.injEq, Prod.mk.injEq] at he
          obtain ⟨rfl, rfl⟩ := he
          refine OpDone.val (v := .agg (us.toArray.extract fd.offset (fd.offset + m))) hi ?_ ?_
          · have hpart : (part fd.type us.toArray fd.offset).run P w = .ok (.agg (us.toArray.extract fd.offset (fd.offset + m))) w := by
              simp [part, run_agg hag, run_size hsz]
            simp [execOp, ho, hus, Instr.field, run_underlying ht, hfd, asAgg, hpart]
          · have hx : us.toArray.extract fd.offset (fd.offset + m) = ((us.drop fd.offset).take m).toArray := by
              simp [List.extract_toArray]
            rw [hx]
            refine .agg _ _ (by simp [l1]) (fun v hv => o1 v (List.mem_of_mem_drop (List.mem_of_mem_take hv))) (fun i v p hv hp => ?_)
            rw [List.getElem?_take] at hv hp
            by_cases hlt : i < m
            · rw [if_pos hlt, List.getElem?_drop] at hv hp
              exact q1 _ _ _ hv hp
            · rw [if_neg hlt] at hv; cases hv
        · cases he
    · cases he
  · cases hc

theorem d_fa {t : TypeId} {x : Operand} {i : Nat} (hA : LinkOk km A) (hf : FrR km cx K σ w a.tmps fr) (hi : Inv km cx K σ w) (ho : o.op = .fieldAddr t x i) (hc : compO P A o = some po) (he : evO E s fr σ po = some (r, σ')) : OpDone km P cx K σ w o a r σ' := by
  simp only [compO, ho] at hc
  split at hc
  · rename_i fs ht
    obtain ⟨fd, hfd, hc⟩ := Option.bind_eq_some_iff.1 hc
    obtain ⟨n, hn, hc⟩ := Option.bind_eq_some_iff.1 hc
    obtain ⟨x', h1, hc⟩ := Option.bind_eq_some_iff.1 hc
    split at hc
    · cases hc
    · rename_i hn0
      simp only [Option.some.injEq] at hc
      subst hc
      have r1 := opnd_rep hA hf h1
      generalize hv : a.eval x = v at r1
      have run_ : ∀ b off, v = .pointer (some ⟨b, off, none⟩) → (execOp a.eval o).run P w = .ok (.value (.pointer (some ⟨b, off + fd.offset, none⟩))) w := by
        intro b off hv'
        subst hv'
        have : (⟨b, off, none⟩ : Addr).add fd.offset = ⟨b, off + fd.offset, none⟩ := Addr.add_mid b off fd.offset
        simp [execOp, ho, hv, Instr.fieldAt, run_underlying ht, hfd, Instr.sureAddr, fieldPlace, run_size hn, hn0, this]
      simp only [evO] at he
      split at he
      · rename_i o1 g1 e1 i1 j1 hu
        rw [hu] at r1
        simp only [Option.some.injEq, Prod.mk.injEq] at he
        obtain ⟨rfl, rfl⟩ := he
        cases r1 with
        | bx _ _ _ _ _ b hK => exact OpDone.val hi (run_ _ _ rfl) (by rw [Nat.add_assoc]; exact .bx _ _ _ _ _ b hK)
      · rename_i xs i1 j1 hu
        rw [hu] at r1
        simp only [Option.some.injEq, Prod.mk.injEq] at he
        obtain ⟨rfl, rfl⟩ := he
        cases r1 with
        | fp b off es _ _ _ us h1 h2 h3 h4 => exact OpDone.val hi (run_ _ _ rfl) (by rw [show off + (i1 * es + j1) + fd.offset = off + (i1 * es + (j1 + fd.offset)) by omega]; exact .fp b off es i1 (j1 + fd.offset) xs us h1 h2 h3 h4)
      · cases he
  · cases hc


theorem Rep.inv_row {L : Addr → Option Value} {S : Addr → Prop} {a : Option Addr} {n cap : Nat} {xs : List PV} (h : Rep km L S K (.slice a n cap) (.sl xs)) : n = xs.length ∧ n ≤ cap ∧ ∃ b off es, ∃ us : Nat → Nat → Value, (n = 0 ∨ a = some ⟨b, off, none⟩) ∧ clL xs = true ∧
    (∀ i j, i < n → j < es → L ⟨b, off + (i * es + j), none⟩ = some (us i j) ∧ S ⟨b, off + (i * es + j), none⟩ ∧ (us i j).oneCell' = true) ∧
    (∀ (i : Nat) x, xs[i]? = some x → (cellsOf x).length = es) ∧ (∀ (i j : Nat) x p, xs[i]? = some x → (cellsOf x)[j]? = some p → Rep km L S K (us i j) p) := by
  cases h with
  | sl a n cap b off es xs us h1 h2 h3 h4 h5 h6 h7 => exact ⟨h1, h2, b, off, es, us, h3, h4, h5, h6, h7⟩

theorem d_ia {t : TypeId} {x y : Operand} (hA : LinkOk km A) (hf : FrR km cx K σ w a.tmps fr) (hi : Inv km cx K σ w) (ho : o.op = .indexAddr t x y) (hc : compO P A o = some po) (he : evO E s fr σ po = some (r, σ')) : OpDone km P cx K σ w o a r σ' := by
  simp only [compO, ho] at hc
  split at hc
  · rename_i e ht
    obtain ⟨es, hs, hc⟩ := Option.bind_eq_some_iff.1 hc
    obtain ⟨x', h1, hc⟩ := Option.bind_eq_some_iff.1 hc
    obtain ⟨y', h2, rfl⟩ := Option.map_eq_some_iff.1 hc
    have r1 := opnd_rep hA hf h1
    have r2 := opnd_rep hA hf h2
    simp only [evO] at he
    split at he
    · rename_i xs k n hu hv
      rw [hu] at r1
      rw [hv] at r2
      split at he
      · rename_i hn
        obtain ⟨hn0, hn1⟩ := hn
        split at he
        · rename_i el hel
          split at he
          · rename_i hlen
            simp only [Option.some.injEq, Prod.mk.injEq] at he
            obtain ⟨rfl, rfl⟩ := he
            generalize hvx : a.eval x = v at r1
            cases r1 with
            | sl ad m cap b off es' xs us q1 q2 q3 q4 q5 q6 q7 =>
              obtain rfl : es' = es := by rw [← q6 _ _ hel]; exact hlen
              have hm : m ≠ 0 := by omega
              obtain rfl := q3.resolve_left hm
              refine OpDone.val (v := .pointer (some ⟨b, off + (n.toNat * es' + 0), none⟩)) hi ?_ (.fp b off es' n.toNat 0 xs us q4 (by rw [← q1]; exact q5) q6 q7)
              have hlt : n < (m : Int) := by omega
              have had : (⟨b, off, none⟩ : Addr).add (n.toNat * es') = ⟨b, off + (n.toNat * es' + 0), none⟩ := Addr.add_mid b off _
              simp [execOp, ho, hvx, r2.inv_sc.1, Instr.indexAt, asIntOf, run_underlying ht, hn0, hlt, run_size hs, had]
          · cases he
        · cases he
      · cases he
    · rename_i o1 g1 e1 b1 c1 k n hu hv
      rw [hu] at r1
      rw [hv] at r2
      split at he
      · rename_i hn
        obtain ⟨hn0, hn1, rfl⟩ := hn
        simp only [Option.some.injEq, Prod.mk.injEq] at he
        obtain ⟨rfl, rfl⟩ := he
        generalize hvx : a.eval x = v at r1
        cases r1 with
        | ob _ _ _ _ _ cap b ad q1 q2 q3 q4 =>
          have hc0 : cap ≠ 0 := by omega
          obtain rfl := q3.resolve_left hc0
          refine OpDone.val (v := .pointer (some ⟨b, (b1 + n.toNat) * e1 + 0, none⟩)) hi ?_ (.bx _ _ _ _ _ b q1)
          have had : (⟨b, b1 * e1, none⟩ : Addr).add (n.toNat * e1) = ⟨b, (b1 + n.toNat) * e1 + 0, none⟩ := by rw [Addr.add_mid, Nat.add_mul]; rfl
          simp [execOp, ho, hvx, r2.inv_sc.1, Instr.indexAt, asIntOf, run_underlying ht, hn0, hn1, run_size hs, had]
      · cases he
    · cases he
  · rename_i len e ht
    obtain ⟨es, hs, hc⟩ := Option.bind_eq_some_iff.1 hc
    obtain ⟨x', h1, hc⟩ := Option.bind_eq_some_iff.1 hc
    obtain ⟨y', h2, rfl⟩ := Option.map_eq_some_iff.1 hc
    have r1 := opnd_rep hA hf h1
    have r2 := opnd_rep hA hf h2
    have run_ : ∀ b off n k, a.eval x = .pointer (some ⟨b, off, none⟩) → a.eval y = .int k n → 0 ≤ n ∧ n < (len : Int) → (execOp a.eval o).run P w = .ok (.value (.pointer (some ⟨b, off + n.toNat * es, none⟩))) w := by
      intro b off n k hx hy hn
      have had : (⟨b, off, none⟩ : Addr).add (n.toNat * es) = ⟨b, off + n.toNat * es, none⟩ := Addr.add_mid b off _
      simp [execOp, ho, hx, hy, Instr.indexAt, asIntOf, run_underlying ht, Instr.sureAddr, hn, run_size hs, had]
    simp only [evO] at he
    split at he
    · rename_i o1 g1 e1 i1 j1 k n hu hv
      rw [hu] at r1
      rw [hv] at r2
      split at he
      · rename_i hn
        simp only [Option.some.injEq, Prod.mk.injEq] at he
        obtain ⟨rfl, rfl⟩ := he
        generalize hvx : a.eval x = v at r1
        cases r1 with
        | bx _ _ _ _ _ b q1 => exact OpDone.val hi (run_ _ _ _ _ hvx r2.inv_sc.1 hn) (by rw [Nat.add_assoc]; exact .bx _ _ _ _ _ b q1)
      · cases he
    · rename_i xs i1 j1 k n hu hv
      rw [hu] at r1
      rw [hv] at r2
      split at he
      · rename_i hn
        simp only [Option.some.injEq, Prod.mk.injEq] at he
        obtain ⟨rfl, rfl⟩ := he
        generalize hvx : a.eval x = v at r1
        cases r1 with
        | fp b off e1 _ _ _ us q1 q2 q3 q4 => exact OpDone.val hi (run_ _ _ _ _ hvx r2.inv_sc.1 hn) (by rw [show off + (i1 * e1 + j1) + n.toNat * es = off + (i1 * e1 + (j1 + n.toNat * es)) by omega]; exact .fp b off e1 i1 _ xs us q1 q2 q3 q4)
      · cases he
    · cases he
  · cases hc

theorem bound_run {n : Nat} {p : PV} {v : Value} {q : Nat} {L : Addr → Option Value} {S : Addr → Prop} {c : BoundsCode} (hb : bound n p = some q) (h : Rep km L S K v p) : (Instr.sliceBound v n c).run P w = .ok q w ∧ q ≤ n := by
  unfold bound at hb
  split at hb
  · rename_i k i
    split at hb
    · rename_i hi
      simp only [Option.some.injEq] at hb
      subst hb
      rw [h.inv_sc.1]
      exact ⟨by simp [Instr.sliceBound, asIntOf, hi], by omega⟩
    · cases hb
  · cases hb

theorem bounds_run (isS : Bool) {len cap : Nat} (hlc : len ≤ cap) {lo hi' : Option Operand} {lo' hi2 : Option PA} {h l : Nat} (hA : LinkOk km A) (hf : FrR km cx K σ w a.tmps fr)
    (e1 : opndO A lo = some lo') (e2 : opndO A hi' = some hi2) (b1 : hiOf len fr hi2 = some h) (b2 : loOf h fr lo' = some l) :
    (Instr.sliceBounds isS len cap (lo.map a.eval) (hi'.map a.eval) none).run P w = .ok (l, h, cap) w ∧ l ≤ h ∧ h ≤ len := by
  have hh : (∀ hv, hi' = some hv → (Instr.sliceBound (a.eval hv) cap (if isS then .sliceAcap else .sliceAlen)).run P w = .ok h w) ∧ h ≤ len ∧ (hi' = none → h = len) := by
    cases hi' with
    | none =>
      simp [opndO] at e2; subst e2; simp [hiOf] at b1; subst b1
      exact ⟨fun hv h => (by cases h), Nat.le_refl _, fun _ => rfl⟩
    | some hv =>
      obtain ⟨y, hy, rfl⟩ := Option.map_eq_some_iff.1 e2
      simp only [hiOf] at b1
      have r1 := opnd_rep hA hf hy
      have hle := (bound_run (P := P) (w := w) (c := .index) b1 r1).2
      refine ⟨fun hv' h' => ?_, hle, fun h => (by cases h)⟩
      cases h'
      simp only [bound] at b1
      split at b1
      · rename_i k i hpa
        rw [hpa] at r1
        split at b1
        · rename_i hi3
          simp only [Option.some.injEq] at b1
          subst b1
          rw [r1.inv_sc.1]
          have : 0 ≤ i ∧ i ≤ (cap : Int) := by omega
          simp [Instr.sliceBound, asIntOf, this]
        · cases b1
      · cases b1
  obtain ⟨h1, h2, h3⟩ := hh
  have hlo : (∀ lv, lo = some lv → (Instr.sliceBound (a.eval lv) h .sliceB).run P w = .ok l w) ∧ l ≤ h ∧ (lo = none → l = 0) := by
    cases lo with
    | none =>
      simp [opndO] at e1; subst e1; simp [loOf] at b2; subst b2
      exact ⟨fun lv h => (by cases h), by omega, fun _ => rfl⟩
    | some lv =>
      obtain ⟨y, hy, rfl⟩ := Option.map_eq_some_iff.1 e1
      simp only [loOf] at b2
      obtain ⟨q1, q2⟩ := bound_run (P := P) (w := w) (c := .sliceB) b2 (opnd_rep hA hf hy)
      exact ⟨fun lv' h' => (by cases h'; exact q1), q2, fun h => by cases h⟩
  obtain ⟨l1, l2, l3⟩ := hlo
  refine ⟨?_, l2, h2⟩
  cases hi' with
  | none =>
    have := h3 rfl
    subst this
    cases lo with
    | none => have := l3 rfl; subst this; simp [Instr.sliceBounds]
    | some lv => simp [Instr.sliceBounds, l1 lv rfl]
  | some hv =>
    cases lo with
    | none => have := l3 rfl; subst this; simp [Instr.sliceBounds, h1 hv rfl]
    | some lv => simp [Instr.sliceBounds, h1 hv rfl, l1 lv rfl]

theorem row_get {xs : List PV} {h l i : Nat} {x : PV} (hx : ((xs.take h).drop l)[i]? = some x) : xs[l + i]? = some x := by
  rw [List.getElem?_drop, List.getElem?_take] at hx
  split at hx
  · exact hx
  · cases hx

theorem d_slc {t : TypeId} {x : Operand} {lo hi' : Option Operand} (hA : LinkOk km A) (hf : FrR km cx K σ w a.tmps fr) (hi : Inv km cx K σ w) (ho : o.op = .slice t x lo hi' none) (ht : ∀ n e, P.underlying t ≠ some (.array n e)) (hc : compO P A o = some po) (he : evO E s fr σ po = some (r, σ')) : OpDone km P cx K σ w o a r σ' := by
  simp only [compO, ho] at hc
  obtain ⟨lo', h1, hc⟩ := Option.bind_eq_some_iff.1 hc
  obtain ⟨hi2, h2, hc⟩ := Option.bind_eq_some_iff.1 hc
  obtain ⟨x', h3, hc⟩ := Option.bind_eq_some_iff.1 hc
  have r1 := opnd_rep hA hf h3
  split at hc
  · rename_i ht
    simp only [Option.some.injEq] at hc
    subst hc
    simp only [evO, slcSP] at he
    obtain ⟨q, hq, he⟩ := Option.map_eq_some_iff.1 he
    simp only [Prod.mk.injEq] at he
    obtain ⟨rfl, rfl⟩ := he
    split at hq
    · rename_i b hu
      rw [hu] at r1
      obtain ⟨h, b1, hq⟩ := Option.bind_eq_some_iff.1 hq
      obtain ⟨l, b2, hq⟩ := Option.bind_eq_some_iff.1 hq
      simp only [Option.some.injEq] at hq
      subst hq
      obtain ⟨hr, q1, q2⟩ := bounds_run (P := P) false (Nat.le_refl b.size) hA hf h1 h2 b1 b2
      refine OpDone.val (v := .string (b.extract l h)) hi ?_ (.sc _ rfl)
      simp [execOp, ho, r1.inv_sc.1, Instr.sliceAt, Instr.slice, run_underlying ht, hr]
    · cases hq
  · rename_i e ht
    obtain ⟨es, hs, rfl⟩ := Option.map_eq_some_iff.1 hc
    have run_ : ∀ ad n cap h l, n ≤ cap → a.eval x = .slice ad n cap → hiOf n fr hi2 = some h → loOf h fr lo' = some l →
        (execOp a.eval o).run P w = .ok (.value (.slice (if cap = l then ad else ad.map (·.add (l * es))) (h - l) (cap - l))) w ∧ l ≤ h ∧ h ≤ n := by
      intro ad n cap h l hn hx b1 b2
      obtain ⟨hr, q1, q2⟩ := bounds_run (P := P) true hn hA hf h1 h2 b1 b2
      refine ⟨?_, q1, q2⟩
      simp [execOp, ho, hx, Instr.sliceAt, Instr.slice, run_underlying ht, hr, run_size hs]
    simp only [evO, slcLP] at he
    obtain ⟨q, hq, he⟩ := Option.map_eq_some_iff.1 he
    simp only [Prod.mk.injEq] at he
    obtain ⟨rfl, rfl⟩ := he
    generalize hvx : a.eval x = v at r1
    split at hq
    · rename_i hu
      rw [hu] at r1
      obtain ⟨h, b1, hq⟩ := Option.bind_eq_some_iff.1 hq
      obtain ⟨l, b2, hq⟩ := Option.bind_eq_some_iff.1 hq
      simp only [Option.some.injEq] at hq
      subst hq
      cases r1 with
      | em ad =>
        obtain ⟨hr, q1, q2⟩ := run_ ad 0 0 h l (Nat.le_refl _) hvx b1 b2
        obtain rfl : h = 0 := by omega
        obtain rfl : l = 0 := by omega
        exact OpDone.val hi hr (by simpa using Rep.em (km := km) (L := w.cell?) (S := Stab cx K σ w) (K := K) ad)
    · rename_i xs hu
      rw [hu] at r1
      split at hq
      · rename_i hall
        obtain ⟨h, b1, hq⟩ := Option.bind_eq_some_iff.1 hq
        obtain ⟨l, b2, hq⟩ := Option.bind_eq_some_iff.1 hq
        simp only [Option.some.injEq] at hq
        subst hq
        cases r1 with
        | sl ad n cap b off es' _ us p1 p2 p3 p4 p5 p6 p7 =>
          rw [← p1] at b1
          obtain ⟨hr, q1, q2⟩ := run_ ad n cap h l p2 hvx b1 b2
          refine OpDone.val hi hr ?_
          have hes : ∀ x ∈ xs, (cellsOf x).length = es := fun x hx => by simpa using List.all_eq_true.1 hall x hx
          have hlen : h - l = ((xs.take h).drop l).length := by simp; omega
          by_cases hz : h - l = 0
          · have hnil : (xs.take h).drop l = [] := List.eq_nil_of_length_eq_zero (by omega)
            rw [hnil, hz]
            exact .sl _ 0 _ b off es' [] us rfl (by omega) (.inl rfl) rfl (fun i j hi => by omega) (fun i x hx => by simp at hx) (fun i j x p hx => by simp at hx)
          · obtain rfl := p3.resolve_left (by omega)
            have h0 : 0 < xs.length := by omega
            obtain rfl : es' = es := by rw [← p6 0 xs[0] (List.getElem?_eq_getElem h0)]; exact hes _ (List.getElem_mem h0)
            rw [if_neg (by omega)]
            have had : (⟨b, off, none⟩ : Addr).add (l * es') = ⟨b, off + l * es', none⟩ := Addr.add_mid b off _
            simp only [Option.map_some, had]
            refine .sl _ _ _ b (off + l * es') es' _ (fun i j => us (l + i) j) hlen (by omega) (.inr rfl) ?_ (fun i j hi hj => ?_) (fun i x hx => p6 _ _ (row_get hx)) (fun i j x p hx hp => p7 _ _ _ _ (row_get hx) hp)
            · refine clL_of fun p hp => ?_
              obtain ⟨i, hi⟩ := List.getElem?_of_mem hp
              exact clL_mem p4 (row_get hi)
            · have := p5 (l + i) j (by omega) hj
              rwa [show off + ((l + i) * es' + j) = off + l * es' + (i * es' + j) by rw [Nat.add_mul]; omega] at this
      · cases hq
    · rename_i o1 g1 e1 i1 n1 hu
      rw [hu] at r1
      split at hq
      · rename_i hes
        subst hes
        obtain ⟨h, b1, hq⟩ := Option.bind_eq_some_iff.1 hq
        obtain ⟨l, b2, hq⟩ := Option.bind_eq_some_iff.1 hq
        simp only [Option.some.injEq] at hq
        subst hq
        cases r1 with
        | ob _ _ _ _ _ cap b ad p1 p2 p3 p4 =>
          obtain ⟨hr, q1, q2⟩ := run_ ad n1 cap h l p2 hvx b1 b2
          refine OpDone.val hi hr (.ob _ _ _ _ _ _ b _ p1 (by omega) ?_ (fun j hj => p4 j (Nat.lt_of_lt_of_le hj (Nat.mul_le_mul_right _ (by omega)))))
          by_cases hcl : cap = l
          · exact .inl (by omega)
          · right
            rw [if_neg hcl]
            obtain rfl := p3.resolve_left (by omega)
            have had : (⟨b, i1 * e1, none⟩ : Addr).add (l * e1) = ⟨b, (i1 + l) * e1, none⟩ := by rw [Addr.add_mid, Nat.add_mul]
            simp [had]
      · cases hq
    · cases hq
  · rename_i n e hu; exact absurd hu (ht n e)
  · cases hc

theorem d_len {c : Call} (hA : LinkOk km A) (hf : FrR km cx K σ w a.tmps fr) (hi : Inv km cx K σ w) (ho : o.op = .call c) (hcl : c.callee = .builtin .len) (hc : compO P A o = some po) (he : evO E s fr σ po = some (r, σ')) : OpDone km P cx K σ w o a r σ' := by
  simp only [compO, ho, compCall, hcl] at hc
  split at hc
  · rename_i x t hargs hty
    have hargs' : c.args = #[x] := by apply Array.ext'; simpa using hargs
    have rn : ∀ (n : Nat) v, a.eval x = v → (Builtin.len_ c.argTypes o.type #[v]).run P w = .ok (.int .i64 n) w → (execOp a.eval o).run P w = .ok (.value (.int .i64 n)) w := by
      intro n v hvx hn
      subst hvx
      simp [execOp, ho, resolve, hcl, invoke, builtin, hargs', hn]
    split at hc
    · rename_i ht
      obtain ⟨x', h1, rfl⟩ := Option.map_eq_some_iff.1 hc
      have r1 := opnd_rep hA hf h1
      simp only [evO] at he
      split at he
      · rename_i b hu
        rw [hu] at r1
        simp only [Option.some.injEq, Prod.mk.injEq] at he
        obtain ⟨rfl, rfl⟩ := he
        refine OpDone.val hi (rn b.size _ r1.inv_sc.1 ?_) (.sc _ rfl)
        simp [Builtin.len_, hty, run_underlying ht, goInt]
      · cases he
    · rename_i e ht
      obtain ⟨x', h1, rfl⟩ := Option.map_eq_some_iff.1 hc
      have r1 := opnd_rep hA hf h1
      have rl : ∀ ad n cap, a.eval x = .slice ad n cap → (execOp a.eval o).run P w = .ok (.value (.int .i64 n)) w := by
        intro ad n cap hx
        refine rn n _ hx ?_
        simp [Builtin.len_, hty, run_underlying ht, goInt]
      generalize hvx : a.eval x = v at r1
      simp only [evO] at he
      split at he
      · rename_i hu
        rw [hu] at r1
        simp only [Option.some.injEq, Prod.mk.injEq] at he
        obtain ⟨rfl, rfl⟩ := he
        cases r1 with
        | em ad => exact OpDone.val hi (rl _ _ _ hvx) (.sc _ rfl)
      · rename_i hu
        rw [hu] at r1
        simp only [Option.some.injEq, Prod.mk.injEq] at he
        obtain ⟨rfl, rfl⟩ := he
        have e1 := r1.inv_sc.1
        exact OpDone.val hi (rl none 0 0 (by rw [hvx, e1])) (.sc _ rfl)
      · rename_i xs hu
        rw [hu] at r1
        simp only [Option.some.injEq, Prod.mk.injEq] at he
        obtain ⟨rfl, rfl⟩ := he
        cases r1 with
        | sl ad n cap b off es' _ us p1 => rw [← p1]; exact OpDone.val hi (rl _ _ _ hvx) (.sc _ rfl)
      · rename_i hu
        rw [hu] at r1
        simp only [Option.some.injEq, Prod.mk.injEq] at he
        obtain ⟨rfl, rfl⟩ := he
        cases r1 with
        | ob _ _ _ _ _ cap b ad p1 => exact OpDone.val hi (rl _ _ _ hvx) (.sc _ rfl)
      · cases he
    · rename_i kt e ht
      obtain ⟨x', h1, rfl⟩ := Option.map_eq_some_iff.1 hc
      have r1 := opnd_rep hA hf h1
      generalize hvx : a.eval x = v at r1
      simp only [evO] at he
      split at he
      · rename_i o1 g1 hu
        rw [hu] at r1
        obtain ⟨l, hl, he⟩ := Option.bind_eq_some_iff.1 he
        split at he
        · simp only [Option.some.injEq, Prod.mk.injEq] at he
          obtain ⟨rfl, rfl⟩ := he
          cases r1 with
          | mp _ _ b k1 =>
            obtain ⟨b', k2, hmap⟩ := hi.mdom _ _ _ hl
            obtain rfl : b' = b := by rw [k1] at k2; simpa using k2.symm
            obtain ⟨es, clock, hb, hes, _⟩ := hmap.heap
            refine OpDone.val hi (rn l.length _ hvx ?_) (.sc _ rfl)
            simp [Builtin.len_, hty, run_underlying ht, MapKept.run_getObj_map hb, Result.andThen, goInt, hes]
        · cases he
      · cases he
    · cases hc
  · cases hc

end
end Go.Proofs.YtcpgkdaicglogaaGreatDoorPv
