/-
Operations on maps.
-/
import Derived.Test.YtcpgkdaicglogaaGreatDoorPvQ
namespace Go.Proofs.YtcpgkdaicglogaaGreatDoorPv
open Go Go.RowKit

section
variable {km : Km} {P : Program} {A : Ann} {cx : Cx km} {K : Nat → Nat → Option Nat} {σ σ' : St} {w : World} {E : Ev} {s : Nat} {fr : Fr} {a : Act} {o : Oper} {po : PO} {r : PV}

/-- Entries, and what is told of them. -/
inductive P2 (R : Value → PV → Prop) : List MapEntry → List (Value × PV) → Prop
  | nil : P2 R [] []
  | cons {e : MapEntry} {q : Value × PV} {es : List MapEntry} {l : List (Value × PV)} : e.key = q.1 → R e.val q.2 → P2 R es l → P2 R (e :: es) (q :: l)

theorem P2.of {R : Value → PV → Prop} : ∀ (es : List MapEntry) (l : List (Value × PV)), es.length = l.length → (∀ (i : Nat) e q, es[i]? = some e → l[i]? = some q → e.key = q.1 ∧ R e.val q.2) → P2 R es l
  | [], [], _, _ => .nil
  | [], _ :: _, h, _ => by simp at h
  | _ :: _, [], h, _ => by simp at h
  | e :: es, q :: l, h, hr => .cons (hr 0 e q rfl rfl).1 (hr 0 e q rfl rfl).2 (P2.of es l (by simpa using h) fun i e' q' he hq => hr (i + 1) e' q' he hq)

theorem P2.len {R : Value → PV → Prop} {es : List MapEntry} {l : List (Value × PV)} (h : P2 R es l) : es.length = l.length := by
  induction h with
  | nil => rfl
  | cons _ _ _ ih => simp [ih]

theorem P2.get {R : Value → PV → Prop} {es : List MapEntry} {l : List (Value × PV)} (h : P2 R es l) : ∀ (i : Nat) e q, es[i]? = some e → l[i]? = some q → e.key = q.1 ∧ R e.val q.2 := by
  induction h with
  | nil => intro i e q he; simp at he
  | cons h1 h2 _ ih =>
    intro i e q he hq
    cases i with
    | zero => simp at he hq; subst he; subst hq; exact ⟨h1, h2⟩
    | succ i => exact ih i e q (by simpa using he) (by simpa using hq)

theorem P2.push {R : Value → PV → Prop} {es : List MapEntry} {l : List (Value × PV)} (h : P2 R es l) {e : MapEntry} {q : Value × PV} (h1 : e.key = q.1) (h2 : R e.val q.2) : P2 R (es ++ [e]) (l ++ [q]) := by
  induction h with
  | nil => exact .cons h1 h2 .nil
  | cons g1 g2 _ ih => exact .cons g1 g2 ih

theorem P2.set {R : Value → PV → Prop} {es : List MapEntry} {l : List (Value × PV)} (h : P2 R es l) {e : MapEntry} {q : Value × PV} (h1 : e.key = q.1) (h2 : R e.val q.2) : ∀ j, P2 R (es.set j e) (l.set j q) := by
  induction h with
  | nil => intro j; exact .nil
  | cons g1 g2 g3 ih =>
    intro j
    cases j with
    | zero => exact .cons h1 h2 g3
    | succ j => exact .cons g1 g2 (ih j)

theorem P2.erase {R : Value → PV → Prop} {es : List MapEntry} {l : List (Value × PV)} (h : P2 R es l) : ∀ j, P2 R (es.eraseIdx j) (l.eraseIdx j) := by
  induction h with
  | nil => intro j; exact .nil
  | cons g1 g2 g3 ih =>
    intro j
    cases j with
    | zero => exact g3
    | succ j => exact .cons g1 g2 (ih j)

/-- Does a key fit a kind of keys? -/
def fitsK : TypeDesc → Value → Bool
  | .int _, .int _ _ => true
  | .string, .string _ => true
  | _, _ => false

theorem same_now {d : TypeDesc} {k k' : Value} {b : Bool} (hf : fitsK d k = true) (h : same1 k k' = some b) : Instr.sameNow d k k' = some b := by
  cases k with
  | int j x =>
    cases k' with
    | int j' y =>
      cases d <;> simp [fitsK] at hf
      simp only [same1] at h
      simp only [Instr.sameNow]
      split at h
      · rename_i hj
        rw [if_pos hj]
        simp only [Option.some.injEq] at h ⊢
        rw [← h]; rfl
      · cases h
    | _ => simp [same1] at h
  | string x =>
    cases k' with
    | string y =>
      cases d <;> simp [fitsK] at hf
      simp only [same1, Option.some.injEq] at h
      simp only [Instr.sameNow, Option.some.injEq]
      rw [← h, Bool.eq_iff_iff, MapKept.bytes_beq, decide_eq_true_iff]
    | _ => simp [same1] at h
  | _ => simp [same1] at h

theorem same1_eq {k k' : Value} (h : same1 k k' = some true) : k' = k := by
  cases k with
  | int j x =>
    cases k' with
    | int j' y =>
      simp only [same1] at h
      split at h
      · rename_i hj
        simp only [Option.some.injEq, decide_eq_true_eq] at h
        rw [hj, h]
      · cases h
    | _ => simp [same1] at h
  | string x =>
    cases k' with
    | string y =>
      simp only [same1, Option.some.injEq, decide_eq_true_eq] at h
      rw [h]
    | _ => simp [same1] at h
  | _ => simp [same1] at h

theorem find_get {R : Value → PV → Prop} {d : TypeDesc} {k : Value} (hf : fitsK d k = true) : ∀ (es : List MapEntry) (l : List (Value × PV)) (r : Option PV) (i : Nat), P2 R es l → mfind k l = some r →
    (r = none ∧ Instr.findNow d k es i = some none) ∨ ∃ (j : Nat) (e : MapEntry) (q : PV), r = some q ∧ Instr.findNow d k es i = some (some (j, e.val)) ∧ R e.val q := by
  intro es l r i h
  induction h generalizing i with
  | nil => intro hm; simp only [mfind, Option.some.injEq] at hm; exact .inl ⟨hm.symm, rfl⟩
  | @cons e q es l h1 h2 _ ih =>
    intro hm
    obtain ⟨qk, qv⟩ := q
    simp only at h1 h2
    simp only [mfind] at hm
    rw [Instr.findNow, h1]
    split at hm
    · rename_i hs
      simp only [Option.some.injEq] at hm
      rw [same_now hf hs]
      exact .inr ⟨i, e, qv, hm.symm, rfl, h2⟩
    · rename_i hs
      rw [same_now hf hs]
      exact ih (i + 1) hm
    · cases hm

theorem find_set {R : Value → PV → Prop} {d : TypeDesc} {k : Value} (hf : fitsK d k = true) {v : PV} : ∀ (es : List MapEntry) (l l' : List (Value × PV)) (i : Nat), P2 R es l → mset k v l = some l' →
    (Instr.findNow d k es i = some none ∧ l' = l ++ [(k, v)]) ∨ ∃ (j : Nat) (e : MapEntry), Instr.findNow d k es i = some (some (i + j, e.val)) ∧ es[j]? = some e ∧ e.key = k ∧ l' = l.set j (k, v) := by
  intro es l l' i h
  induction h generalizing i l' with
  | nil => intro hm; simp only [mset, Option.some.injEq] at hm; exact .inl ⟨rfl, hm.symm⟩
  | @cons e q es l h1 h2 _ ih =>
    intro hm
    obtain ⟨qk, qv⟩ := q
    simp only at h1 h2
    simp only [mset] at hm
    rw [Instr.findNow, h1]
    split at hm
    · rename_i hs
      simp only [Option.some.injEq] at hm
      rw [same_now hf hs]
      exact .inr ⟨0, e, rfl, rfl, by rw [h1, same1_eq hs], hm.symm⟩
    · rename_i hs
      rw [same_now hf hs]
      obtain ⟨m, hm1, rfl⟩ := Option.map_eq_some_iff.1 hm
      rcases ih m (i + 1) hm1 with ⟨g1, rfl⟩ | ⟨j, e', g1, g2, g3, rfl⟩
      · exact .inl ⟨g1, rfl⟩
      · exact .inr ⟨j + 1, e', by rw [show i + (j + 1) = i + 1 + j by omega]; exact g1, by simpa using g2, g3, rfl⟩
    · cases hm

theorem find_rem {R : Value → PV → Prop} {d : TypeDesc} {k : Value} (hf : fitsK d k = true) : ∀ (es : List MapEntry) (l l' : List (Value × PV)) (i : Nat), P2 R es l → mrem k l = some l' →
    (Instr.findNow d k es i = some none ∧ l' = l) ∨ ∃ (j : Nat) (v : Value), Instr.findNow d k es i = some (some (i + j, v)) ∧ j < es.length ∧ l' = l.eraseIdx j := by
  intro es l l' i h
  induction h generalizing i l' with
  | nil => intro hm; simp only [mrem, Option.some.injEq] at hm; exact .inl ⟨rfl, hm.symm⟩
  | @cons e q es l h1 h2 _ ih =>
    intro hm
    obtain ⟨qk, qv⟩ := q
    simp only at h1 h2
    simp only [mrem] at hm
    rw [Instr.findNow, h1]
    split at hm
    · rename_i hs
      simp only [Option.some.injEq] at hm
      rw [same_now hf hs]
      exact .inr ⟨0, e.val, rfl, by simp, hm.symm⟩
    · rename_i hs
      rw [same_now hf hs]
      obtain ⟨m, hm1, rfl⟩ := Option.map_eq_some_iff.1 hm
      rcases ih m (i + 1) hm1 with ⟨g1, rfl⟩ | ⟨j, v, g1, g2, rfl⟩
      · exact .inl ⟨g1, rfl⟩
      · exact .inr ⟨j + 1, v, by rw [show i + (j + 1) = i + 1 + j by omega]; exact g1, by simp; omega, rfl⟩
    · cases hm

theorem key_fits {kd : Nat} {kt : TypeId} {d : TypeDesc} {k : Value} (hk : keyKind P kt = some kd) (hd : P.underlying kt = some d) (hv : mkeyV kd k = true) : fitsK d k = true := by
  unfold keyKind at hk
  rw [hd] at hk
  split at hk
  · rename_i j hj
    simp only [Option.some.injEq] at hj hk
    subst hj; subst hk
    cases k <;> simp_all [mkeyV, fitsK]
  · rename_i hj
    simp only [Option.some.injEq] at hj hk
    subst hj; subst hk
    cases k <;> simp_all [mkeyV, fitsK]
  · cases hk

theorem check_fits {kt : TypeId} {d : TypeDesc} {k : Value} (hd : P.underlying kt = some d) (hf : fitsK d k = true) (e : Bool) : (Instr.checkKey e 10000 kt k).run P w = .ok () w := by
  rw [show (10000 : Nat) = 9999 + 1 from rfl]
  unfold Instr.checkKey
  simp only [Sem.run_bind, run_underlying hd, Result.andThen]
  cases d <;> cases k <;> simp_all [fitsK]

theorem keyKind_some {kd : Nat} {kt : TypeId} (hk : keyKind P kt = some kd) : ∃ d, P.underlying kt = some d := by
  unfold keyKind at hk
  cases h : P.underlying kt with
  | none => rw [h] at hk; cases hk
  | some d => exact ⟨d, rfl⟩

theorem stays_same {d : TypeDesc} {k : Value} (hf : fitsK d k = true) : (Instr.keyThatStays k k).run P w = .ok k w := by
  unfold Instr.keyThatStays
  have : Instr.sameBits 10000 k k = true := by
    rw [show (10000 : Nat) = 9999 + 1 from rfl]
    cases d <;> cases k <;> simp_all [fitsK, Instr.sameBits, MapKept.bytes_beq]
  rw [this]
  rfl

theorem setMap_same {b : Nat} {es : Array MapEntry} {clock : Nat} (hb : w.heap[b]? = some (.map es clock)) (es' : Array MapEntry) (clock' : Nat) :
    ({ w with heap := w.heap.setIfInBounds b (.map es' clock') } : World).cell? = w.cell? ∧ ({ w with heap := w.heap.setIfInBounds b (.map es' clock') } : World).shape? = w.shape? ∧ ({ w with heap := w.heap.setIfInBounds b (.map es' clock') } : World).frozen? = w.frozen? ∧
    (∀ k, k ≠ b → ({ w with heap := w.heap.setIfInBounds b (.map es' clock') } : World).heap[k]? = w.heap[k]?) ∧ ({ w with heap := w.heap.setIfInBounds b (.map es' clock') } : World).heap[b]? = some (.map es' clock') := by
  have hlt : b < w.heap.size := (Array.getElem?_eq_some_iff.1 hb).1
  have ho : ∀ k, k ≠ b → (w.heap.setIfInBounds b (.map es' clock'))[k]? = w.heap[k]? := fun k hk => by rw [Array.getElem?_setIfInBounds_ne (Ne.symm hk)]
  have hn : (w.heap.setIfInBounds b (.map es' clock'))[b]? = some (.map es' clock') := by rw [Array.getElem?_setIfInBounds_self_of_lt hlt]
  refine ⟨?_, ?_, ?_, ho, hn⟩
  · funext x
    unfold World.cell?
    by_cases h : x.block = b
    · simp only [h, hn, hb]
    · simp only [ho _ h]
  · funext x
    unfold World.shape?
    by_cases h : x = b
    · simp only [h, hn, hb]
    · simp only [ho _ h]
  · funext x
    unfold World.frozen?
    by_cases h : x.block = b
    · simp only [h, hn, hb]
    · simp only [ho _ h]

theorem inv_setMap (hi : Inv km cx K σ w) {o1 g1 b : Nat} {l0 l1 : List (Value × PV)} {es es' : Array MapEntry} {clock clock' : Nat} (hm : σ.mm o1 g1 = some l0) (hk : K o1 g1 = some b) (hb : w.heap[b]? = some (.map es clock))
    (hp : P2 (RepS km cx K σ w) es'.toList l1) : Inv km cx K (σ.putM o1 g1 l1) { w with heap := w.heap.setIfInBounds b (.map es' clock') } ∧ Ext cx K σ w K (σ.putM o1 g1 l1) { w with heap := w.heap.setIfInBounds b (.map es' clock') } := by
  obtain ⟨h1, h2, h3, h4, h5⟩ := setMap_same hb es' clock'
  have hkb := hi.kb _ _ _ hk
  refine inv_putM hi hm hk h1 (by simp) ⟨rfl, rfl, rfl, by simp, fun k hk' => h4 k (by omega)⟩ h2 h3 h4 h5 (by have := hp.len; simpa using this) fun i e q he hq => hp.get i e q (by simpa using he) hq

theorem map_of {v : Value} {o1 g1 : Nat} {l : List (Value × PV)} (hi : Inv km cx K σ w) (hr : RepS km cx K σ w v (.mp o1 g1)) (hl : σ.mm o1 g1 = some l) :
    ∃ b es clock, v = .map (some b) ∧ K o1 g1 = some b ∧ w.heap[b]? = some (.map es clock) ∧ P2 (RepS km cx K σ w) es.toList l := by
  cases hr with
  | mp _ _ b k1 =>
    obtain ⟨b', k2, hmap⟩ := hi.mdom _ _ _ hl
    obtain rfl : b' = b := by rw [k1] at k2; simpa using k2.symm
    obtain ⟨es, clock, hb, hes, hx⟩ := hmap.heap
    exact ⟨b', es, clock, rfl, k1, hb, P2.of _ _ (by simpa using hes) fun i e q he hq => hx i e q (by simpa using he) hq⟩

theorem chunks_get {es n : Nat} {cs : List PV} {i : Nat} {x : PV} (h : (chunks es n cs)[i]? = some x) : i < n ∧ x = .agg ((cs.drop (i * es)).take es) := by
  unfold chunks at h
  rw [List.getElem?_map] at h
  obtain ⟨k, hk, rfl⟩ := Option.map_eq_some_iff.1 h
  obtain ⟨hk1, hk2⟩ := List.getElem?_eq_some_iff.1 hk
  simp only [List.length_range] at hk1
  simp only [List.getElem_range] at hk2
  subst hk2
  exact ⟨hk1, rfl⟩

theorem bounds_all {n : Nat} : (Instr.sliceBounds false n n none none none).run P w = .ok (0, n, n) w := by
  simp [Instr.sliceBounds]

theorem d_slcA {t e : TypeId} {n : Nat} {x : Operand} {lo hi' : Option Operand} (hA : LinkOk km A) (hf : FrR km cx K σ w a.tmps fr) (hi : Inv km cx K σ w) (ho : o.op = .slice t x lo hi' none) (ht : P.underlying t = some (.array n e)) (hc : compO P A o = some po) (he : evO E s fr σ po = some (r, σ')) : OpDone km P cx K σ w o a r σ' := by
  simp only [compO, ho] at hc
  obtain ⟨lo', h1, hc⟩ := Option.bind_eq_some_iff.1 hc
  obtain ⟨hi2, h2, hc⟩ := Option.bind_eq_some_iff.1 hc
  obtain ⟨x', h3, hc⟩ := Option.bind_eq_some_iff.1 hc
  have r1 := opnd_rep hA hf h3
  simp only [ht] at hc
  · split at hc
    · rename_i hag
      obtain ⟨es, hes, rfl⟩ := Option.map_eq_some_iff.1 hc
      obtain rfl : lo = none := by
        cases lo with
        | none => rfl
        | some y => simp only [opndO] at h1; obtain ⟨_, _, h⟩ := Option.map_eq_some_iff.1 h1; cases h
      obtain rfl : hi' = none := by
        cases hi' with
        | none => rfl
        | some y => simp only [opndO] at h2; obtain ⟨_, _, h⟩ := Option.map_eq_some_iff.1 h2; cases h
      simp only [evO] at he
      split at he
      · rename_i o1 g1 E1 i1 j1 hx
        rw [hx] at r1
        split at he
        · rename_i y hy
          split at he
          · rename_i c hcx
            split at he
            · rename_i hq
              obtain ⟨rfl, hlen, hn0, hes0, hcl⟩ := hq
              simp only [Option.some.injEq, Prod.mk.injEq] at he
              obtain ⟨rfl, rfl⟩ := he
              obtain ⟨f1, f2⟩ := inv_weaken (σ' := σ.put o1 g1 (some { y with wr := false })) hi rfl (fun o g x' h => by
                simp only [St.put] at h
                split at h
                · rename_i hq; obtain ⟨rfl, rfl⟩ := hq
                  simp only [Option.some.injEq] at h; subst h
                  exact ⟨y, hy, rfl, rfl, fun h => h, fun h => by cases h⟩
                · exact ⟨x', h, rfl, rfl, fun h => h, fun h => h⟩)
              generalize hvx : a.eval x = v at r1
              cases r1 with
              | bx _ _ _ _ _ b hk =>
                obtain ⟨b', hk', hcells⟩ := f1.dom o1 g1 { y with wr := false } (by simp [St.put])
                obtain rfl : b' = b := by rw [hk] at hk'; simpa using hk'.symm
                have hrun : (execOp a.eval o).run P w = .ok (.value (.slice (some ⟨b', i1 * y.es + j1, none⟩) n n)) w := by
                  have hadd : (⟨b', i1 * y.es + j1, none⟩ : Addr).add (0 * es) = ⟨b', i1 * y.es + j1, none⟩ := by rw [Addr.add_mid]; simp
                  have hsl : (Instr.sliceAt t (.pointer (some ⟨b', i1 * y.es + j1, none⟩)) none none none).run P w = .ok (.slice (some ⟨b', i1 * y.es + j1, none⟩) n n) w := by
                    simp [Instr.sliceAt, run_underlying ht, Instr.sureAddr, bounds_all, run_size hes, Result.andThen]
                    intro _
                    simpa using hadd
                  simp [execOp, ho, hvx, hsl, Result.andThen]
                have hce : (cellsOf c).length = y.es := hcells.len i1 c hcx
                have hmem : ∀ (i j : Nat), i < n → j < es → ∃ p, ((cellsOf c).drop j1)[i * es + j]? = some p ∧ (cellsOf c)[j1 + (i * es + j)]? = some p := by
                  intro i j hin hje
                  have h5 : i * es + j < n * es := by
                    have : (i + 1) * es ≤ n * es := Nat.mul_le_mul_right _ hin
                    rw [Nat.add_mul] at this; omega
                  have h6 : j1 + (i * es + j) < (cellsOf c).length := by omega
                  exact ⟨_, by rw [List.getElem?_drop]; exact List.getElem?_eq_getElem h6, List.getElem?_eq_getElem h6⟩
                have hcell : ∀ (i j : Nat) p, (cellsOf c)[j1 + (i * es + j)]? = some p → ∃ v, w.cell? ⟨b', i1 * y.es + j1 + (i * es + j), none⟩ = some v ∧ v.oneCell' = true ∧ RepS km cx K (σ.put o1 g1 (some { y with wr := false })) w v p ∧ Stab cx K (σ.put o1 g1 (some { y with wr := false })) w ⟨b', i1 * y.es + j1 + (i * es + j), none⟩ := by
                  intro i j p hp
                  obtain ⟨v, c1, c2, c3, c4⟩ := hcells.cell i1 (j1 + (i * es + j)) c p hcx hp
                  simp only [← Nat.add_assoc] at c1 c4 ⊢
                  exact ⟨v, c1, c2, c3, c4 (by simp)⟩
                refine ⟨_, _, w, K, hrun, rfl, ?_, f1, f2⟩
                refine .sl _ n n b' (i1 * y.es + j1) es _ (fun i j => (w.cell? ⟨b', i1 * y.es + j1 + (i * es + j), none⟩).getD undef) (by simp [chunks]) (Nat.le_refl _) (.inr rfl) ?_ ?_ ?_ ?_
                · refine clL_of fun p hp => ?_
                  obtain ⟨i, hi2⟩ := List.getElem?_of_mem hp
                  obtain ⟨_, rfl⟩ := chunks_get hi2
                  simp only [cl]
                  refine clL_of fun q hq => ?_
                  have h7 : q ∈ cellsOf c := List.mem_of_mem_drop (List.mem_of_mem_drop (List.mem_of_mem_take hq))
                  obtain ⟨m, hm⟩ := List.getElem?_of_mem h7
                  exact clL_mem hcl hm
                · intro i j hin hje
                  obtain ⟨p, _, hp⟩ := hmem i j hin hje
                  obtain ⟨v, c1, c2, c3, c4⟩ := hcell i j p hp
                  rw [c1]
                  exact ⟨rfl, c4, c2⟩
                · intro i x hx
                  obtain ⟨hin, rfl⟩ := chunks_get hx
                  have h5 : (i + 1) * es ≤ n * es := Nat.mul_le_mul_right _ hin
                  rw [Nat.add_mul] at h5
                  show (((List.drop j1 (cellsOf c)).drop (i * es)).take es).length = es
                  rw [List.length_take, List.length_drop, List.length_drop]
                  omega
                · intro i j x p hx hp
                  obtain ⟨hin, rfl⟩ := chunks_get hx
                  have hje : j < es := by
                    have := (List.getElem?_eq_some_iff.1 hp).1
                    simp only [cellsOf, List.length_take] at this
                    omega
                  simp only [cellsOf] at hp
                  rw [List.getElem?_take, if_pos hje, List.getElem?_drop, List.getElem?_drop] at hp
                  obtain ⟨v, c1, c2, c3, c4⟩ := hcell i j p hp
                  show Rep km w.cell? _ K ((w.cell? ⟨b', i1 * y.es + j1 + (i * es + j), none⟩).getD undef) p
                  rw [c1]
                  exact c3
            · cases he
          · cases he
        · cases he
      · cases he
    · cases hc

theorem d_mkm {t : TypeId} {rs : Option Operand} (hs : Plain s) (hi : Inv km cx K σ w) (ho : o.op = .makeMap t rs) (hc : compO P A o = some po) (he : evO E s fr σ po = some (r, σ')) : OpDone km P cx K σ w o a r σ' := by
  simp only [compO, ho] at hc
  split at hc
  · rename_i kt e ht
    split at hc
    · rename_i hr
      simp only [Option.some.injEq] at hc
      subst hc
      simp only [evO, Option.some.injEq, Prod.mk.injEq] at he
      obtain ⟨rfl, rfl⟩ := he
      have hrun : (execOp a.eval o).run P w = .ok (.value (.map (some w.heap.size))) (w.alloc (.map #[] 0)) := by
        cases rs with
        | none => simp [execOp, ho, Instr.makeMap, newObj]; rfl
        | some x =>
          cases x with
          | const v =>
            cases v <;> simp [roomOk] at hr
            simp [execOp, ho, Instr.makeMap, newObj, run_underlying ht, Act.eval, asInt, Result.andThen]; rfl
          | _ => simp [roomOk] at hr
      obtain ⟨f1, f2⟩ := inv_newM hi (below_alloc_self w (.map #[] 0)) (s := mapAt + s) (b0 := w.heap.size) (Nat.le_refl _) (by rw [size_alloc]; omega) (heap_alloc_self w _)
        ⟨fun e => by unfold Plain at hs; unfold mapAt bldAt at e; omega, fun e => by unfold Plain at hs; unfold mapAt bufAt at e; omega⟩
      exact ⟨_, _, _, _, hrun, rfl, .mp _ _ _ Kput_new, f1, f2⟩
    · cases hc
  · cases hc

theorem d_mput {t : TypeId} {x y z : Operand} (hA : LinkOk km A) (hf : FrR km cx K σ w a.tmps fr) (hi : Inv km cx K σ w) (ho : o.op = .mapUpdate t x y z ∨ o.op = .insert t x y z) (hc : compO P A o = some po) (he : evO E s fr σ po = some (r, σ')) : OpDone km P cx K σ w o a r σ' := by
  have hc' : (match P.underlying t with
      | some (.map kt _) => (keyKind P kt).bind fun kd => (opnd A x).bind fun m' => (opnd A y).bind fun k' => (opnd A z).map fun v' => PO.mput kd m' k' v'
      | _ => none) = some po := by
    rcases ho with ho | ho <;> (simp only [compO, ho] at hc; exact hc)
  split at hc'
  · rename_i kt e ht
    obtain ⟨kd, hkd, hc'⟩ := Option.bind_eq_some_iff.1 hc'
    obtain ⟨x', h1, hc'⟩ := Option.bind_eq_some_iff.1 hc'
    obtain ⟨y', h2, hc'⟩ := Option.bind_eq_some_iff.1 hc'
    obtain ⟨z', h3, rfl⟩ := Option.map_eq_some_iff.1 hc'
    have r1 := opnd_rep hA hf h1
    have r2 := opnd_rep hA hf h2
    have r3 := opnd_rep hA hf h3
    simp only [evO] at he
    split at he
    · rename_i o1 g1 kv hm hkv
      rw [hm] at r1
      rw [hkv] at r2
      split at he
      · rename_i hkk
        obtain ⟨l, hl, he⟩ := Option.bind_eq_some_iff.1 he
        obtain ⟨l', hl', he⟩ := Option.map_eq_some_iff.1 he
        simp only [Prod.mk.injEq] at he
        obtain ⟨rfl, rfl⟩ := he
        obtain ⟨b, es, clock, hvx, hkb, hb, hp⟩ := map_of hi r1 hl
        obtain ⟨d, hd⟩ := keyKind_some hkd
        have hfit := key_fits hkd hd hkk
        have hvy := r2.inv_sc.1
        have hchk := check_fits (w := w) hd hfit false
        have hrun0 : ∀ o' : World, (Instr.mapUpdate t (a.eval x) (a.eval y) (a.eval z)).run P w = .ok () o' → (execOp a.eval o).run P w = .ok .skip o' := by
          intro o' h
          rcases ho with ho | ho <;> simp [execOp, ho, h, Result.andThen]
        rcases find_set (R := RepS km cx K σ w) hfit (v := pa fr z') es.toList l l' 0 hp hl' with ⟨g1, rfl⟩ | ⟨j, e0, g1, g2, g3, rfl⟩
        · obtain ⟨f1, f2⟩ := inv_setMap (es' := es.push ⟨kv, a.eval z, clock⟩) (clock' := clock + 1) hi hl hkb hb (by rw [Array.toList_push]; exact hp.push (e := ⟨kv, a.eval z, clock⟩) (q := (kv, pa fr z')) rfl r3)
          refine ⟨_, _, _, K, hrun0 _ ?_, rfl, .jk _, f1, f2⟩
          rw [hvx, hvy]
          simp [Instr.mapUpdate, run_underlying ht, MapKept.run_getObj_map hb, hchk, Instr.findKey, run_underlying hd, g1, MapKept.run_setObj_map _ hb, Result.andThen]
        · have hj : es[j]? = some e0 := by simpa using g2
          have hjl : j < es.size := (Array.getElem?_eq_some_iff.1 hj).1
          have hmod : (es.modify j fun e' => { e' with key := kv, val := a.eval z }).toList = es.toList.set j ⟨kv, a.eval z, e0.born⟩ := by
            rw [Array.toList_modify]
            apply List.ext_getElem?
            intro i
            rw [List.getElem?_modify, List.getElem?_set]
            by_cases hij : j = i
            · subst hij
              have hjl2 : j < es.toList.length := by simpa using hjl
              rw [g2]
              simp [hjl]
            · simp [hij]
          obtain ⟨f1, f2⟩ := inv_setMap (es' := es.modify j fun e' => { e' with key := kv, val := a.eval z }) (clock' := clock) hi hl hkb hb (by rw [hmod]; exact hp.set (e := ⟨kv, a.eval z, e0.born⟩) (q := (kv, pa fr z')) rfl r3 j)
          refine ⟨_, _, _, K, hrun0 _ ?_, rfl, .jk _, f1, f2⟩
          rw [hvx, hvy]
          have hst := stays_same (P := P) (w := w) hfit
          simp [Instr.mapUpdate, run_underlying ht, MapKept.run_getObj_map hb, hchk, Instr.findKey, run_underlying hd, g1, hj, g3, hst, MapKept.run_setObj_map _ hb, Result.andThen]
      · cases he
    · cases he
  · cases hc'

theorem d_mget {t : TypeId} {x y : Operand} {ok : Bool} (hA : LinkOk km A) (hf : FrR km cx K σ w a.tmps fr) (hi : Inv km cx K σ w) (ho : o.op = .lookup t x y ok) (hc : compO P A o = some po) (he : evO E s fr σ po = some (r, σ')) : OpDone km P cx K σ w o a r σ' := by
  simp only [compO, ho] at hc
  split at hc
  · rename_i kt e ht
    obtain ⟨kd, hkd, hc⟩ := Option.bind_eq_some_iff.1 hc
    obtain ⟨z0, hz0, hc⟩ := Option.bind_eq_some_iff.1 hc
    obtain ⟨z, hz, hc⟩ := Option.bind_eq_some_iff.1 hc
    obtain ⟨x', h1, hc⟩ := Option.bind_eq_some_iff.1 hc
    obtain ⟨y', h2, rfl⟩ := Option.map_eq_some_iff.1 hc
    unfold pickZero at hz
    split at hz
    · rename_i hzok
      simp only [Option.some.injEq] at hz
      subst hz
      have r1 := opnd_rep hA hf h1
      have r2 := opnd_rep hA hf h2
      simp only [evO] at he
      split at he
      · rename_i o1 g1 kv hm hkv
        rw [hm] at r1
        rw [hkv] at r2
        split at he
        · rename_i hkk
          obtain ⟨l, hl, he⟩ := Option.bind_eq_some_iff.1 he
          obtain ⟨q, hq, he⟩ := Option.map_eq_some_iff.1 he
          simp only [Prod.mk.injEq] at he
          obtain ⟨rfl, rfl⟩ := he
          obtain ⟨b, es, clock, hvx, hkb, hb, hp⟩ := map_of hi r1 hl
          obtain ⟨d, hd⟩ := keyKind_some hkd
          have hfit := key_fits hkd hd hkk
          have hvy := r2.inv_sc.1
          have hchk := fun e => check_fits (w := w) hd hfit e
          have hrz := run_zero (w := w) hz0
          have fin : ∀ (v : Value) (p : PV) (f : Bool), RepS km cx K σ w v p → (Instr.lookup t (a.eval x) (a.eval y) ok).run P w = .ok (if ok then .tuple #[v, .bool f] else v) w → OpDone km P cx K σ w o a (if ok = true then .tu [p, .sc (.bool f)] else p) σ := by
            intro v p f hv hrun
            cases ok with
            | true =>
              refine OpDone.val hi (v := .tuple #[v, .bool f]) (by simp [execOp, ho]; rw [hrun]; rfl) ?_
              simp only [if_true]
              refine .tu [v, .bool f] _ rfl fun i u p' hu hp' => ?_
              match i with
              | 0 => simp at hu hp'; subst hu; subst hp'; exact hv
              | 1 => simp at hu hp'; subst hu; subst hp'; exact .sc _ rfl
              | i + 2 => simp at hu
            | false =>
              refine OpDone.val hi (v := v) (by simp [execOp, ho]; rw [hrun]; rfl) ?_
              simpa using hv
          rcases find_get (R := RepS km cx K σ w) hfit es.toList l q 0 hp hq with ⟨rfl, g1⟩ | ⟨j, e0, q', rfl, g1, g2⟩
          · refine fin z0 (pv z0) false (rep_pv hzok) ?_
            rw [hvx, hvy]
            cases ok <;> simp [Instr.lookup, run_underlying ht, MapKept.run_getObj_map hb, hchk, Instr.findKey, run_underlying hd, g1, hrz, Result.andThen]
          · refine fin e0.val q' true g2 ?_
            rw [hvx, hvy]
            cases ok <;> simp [Instr.lookup, run_underlying ht, MapKept.run_getObj_map hb, hchk, Instr.findKey, run_underlying hd, g1, Result.andThen]
        · cases he
      · cases he
    · cases hz
  · cases hc

theorem d_mdel {c : Call} (hA : LinkOk km A) (hf : FrR km cx K σ w a.tmps fr) (hi : Inv km cx K σ w) (ho : o.op = .call c) (hcl : c.callee = .builtin .delete) (hc : compO P A o = some po) (he : evO E s fr σ po = some (r, σ')) : OpDone km P cx K σ w o a r σ' := by
  simp only [compO, ho, compCall, hcl] at hc
  split at hc
  · rename_i x y t u hargs hty
    have hargs' : c.args = #[x, y] := by apply Array.ext'; simpa using hargs
    have hty' : c.argTypes = #[t, u] := by apply Array.ext'; simpa using hty
    split at hc
    · rename_i kt e ht
      obtain ⟨kd, hkd, hc⟩ := Option.bind_eq_some_iff.1 hc
      obtain ⟨x', h1, hc⟩ := Option.bind_eq_some_iff.1 hc
      obtain ⟨y', h2, rfl⟩ := Option.map_eq_some_iff.1 hc
      have r1 := opnd_rep hA hf h1
      have r2 := opnd_rep hA hf h2
      simp only [evO] at he
      split at he
      · rename_i o1 g1 kv hm hkv
        rw [hm] at r1
        rw [hkv] at r2
        split at he
        · rename_i hkk
          obtain ⟨l, hl, he⟩ := Option.bind_eq_some_iff.1 he
          obtain ⟨l', hl', he⟩ := Option.map_eq_some_iff.1 he
          simp only [Prod.mk.injEq] at he
          obtain ⟨rfl, rfl⟩ := he
          obtain ⟨b, es, clock, hvx, hkb, hb, hp⟩ := map_of hi r1 hl
          obtain ⟨d, hd⟩ := keyKind_some hkd
          have hfit := key_fits hkd hd hkk
          have hvy := r2.inv_sc.1
          have hchk := fun e => check_fits (w := w) hd hfit e
          have hrun0 : ∀ o' : World, (Builtin.delete_ #[t, u] o.type #[.map (some b), kv]).run P w = .ok (.tuple #[]) o' → (execOp a.eval o).run P w = .ok (.value (.tuple #[])) o' := by
            intro o' h
            rw [← hvx, ← hvy] at h
            simp [execOp, ho, resolve, hcl, invoke, builtin, hargs', hty', h, Result.andThen]
          rcases find_rem (R := RepS km cx K σ w) hfit es.toList l l' 0 hp hl' with ⟨g1, rfl⟩ | ⟨j, v, g1, g2, rfl⟩
          · obtain ⟨f1, f2⟩ := inv_setMap (es' := es) (clock' := clock) hi hl hkb hb hp
            refine ⟨_, .tuple #[], _, K, hrun0 _ ?_, rfl, .tu [] [] rfl (fun i v p h => by simp at h), f1, f2⟩
            simp [Builtin.delete_, run_underlying ht, MapKept.run_getObj_map hb, hchk, Instr.findKey, run_underlying hd, g1, MapKept.run_setObj_map _ hb, Result.andThen]
          · have her : (es.eraseIdxIfInBounds j).toList = es.toList.eraseIdx j := by
              unfold Array.eraseIdxIfInBounds
              rw [dif_pos (by simpa using g2)]
              simp
            obtain ⟨f1, f2⟩ := inv_setMap (es' := es.eraseIdxIfInBounds j) (clock' := clock) hi hl hkb hb (by rw [her]; exact hp.erase j)
            refine ⟨_, .tuple #[], _, K, hrun0 _ ?_, rfl, .tu [] [] rfl (fun i v p h => by simp at h), f1, f2⟩
            simp [Builtin.delete_, run_underlying ht, MapKept.run_getObj_map hb, hchk, Instr.findKey, run_underlying hd, g1, MapKept.run_setObj_map _ hb, Result.andThen]
        · cases he
      · cases he
    · cases hc
  · cases hc

end
end Go.Proofs.YtcpgkdaicglogaaGreatDoorPv
