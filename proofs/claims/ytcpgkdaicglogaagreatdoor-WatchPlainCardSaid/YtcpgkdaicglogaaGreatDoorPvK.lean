/-
Conversions, makeSlice.
-/
import Derived.Test.YtcpgkdaicglogaaGreatDoorPvJ
namespace Go.Proofs.YtcpgkdaicglogaaGreatDoorPv
open Go Go.RowKit

section
variable {km : Km} {P : Program} {A : Ann} {cx : Cx km} {K : Nat → Nat → Option Nat} {σ σ' : St} {w : World} {E : Ev} {s : Nat} {fr : Fr} {a : Act} {o : Oper} {po : PO} {r : PV}

/-- The elements of a slice, as they lie in memory. -/
theorem elems_rep {v : Value} {p : PV} {xs : List PV} (hi : Inv km cx K σ w) (h : RepS km cx K σ w v p) (he : elemsOf σ p = some xs) :
    ∃ a cap, v = .slice a xs.length cap ∧ xs.length ≤ cap ∧ (xs.length = 0 ∨ ∃ b off es, a = some ⟨b, off, none⟩ ∧ (∀ (i : Nat) x, xs[i]? = some x → (cellsOf x).length = es) ∧
      ∀ (i j : Nat) x q, xs[i]? = some x → (cellsOf x)[j]? = some q → ∃ u, w.cell? ⟨b, off + (i * es + j), none⟩ = some u ∧ u.oneCell' = true ∧ RepS km cx K σ w u q) := by
  unfold elemsOf at he
  split at he
  · simp only [Option.some.injEq] at he
    subst he
    cases h with
    | em a => exact ⟨a, 0, rfl, Nat.le_refl _, .inl rfl⟩
  · simp only [Option.some.injEq] at he
    subst he
    cases h with
    | sl a n cap b off es _ us h1 h2 h3 h4 h5 h6 h7 =>
      subst h1
      refine ⟨a, cap, rfl, h2, ?_⟩
      rcases h3 with h3 | h3
      · exact .inl h3
      · refine .inr ⟨b, off, es, h3, h6, fun i j x q hx hq => ?_⟩
        have hj : j < es := by rw [← h6 i x hx]; exact (List.getElem?_eq_some_iff.1 hq).1
        obtain ⟨c1, _, c3⟩ := h5 i j (List.getElem?_eq_some_iff.1 hx).1 hj
        exact ⟨us i j, c1, c3, h7 i j x q hx hq⟩
  · rename_i o1 g1 es i n
    split at he
    · rename_i ob hob
      split at he
      · rename_i hq
        obtain ⟨rfl, hq⟩ := hq
        simp only [Option.some.injEq] at he
        subst he
        cases h with
        | ob _ _ _ _ _ cap b a hk hn ha hs =>
          have hl : ((ob.xs.drop i).take n).length = n := by simp; omega
          refine ⟨a, cap, by rw [hl], by rw [hl]; exact hn, ?_⟩
          rcases ha with ha | ha
          · left; omega
          · right
            obtain ⟨b', hk', hcells⟩ := hi.dom _ _ _ hob
            obtain rfl : b' = b := by rw [hk] at hk'; simpa using hk'.symm
            have get : ∀ (k : Nat) x, ((ob.xs.drop i).take n)[k]? = some x → ob.xs[i + k]? = some x := by
              intro k x hx
              rw [List.getElem?_take] at hx
              split at hx
              · rwa [List.getElem?_drop] at hx
              · cases hx
            refine ⟨b', i * ob.es, ob.es, ha, fun k x hx => hcells.len _ x (get k x hx), fun k j x q hx hq => ?_⟩
            obtain ⟨u, c1, c2, c3, _⟩ := hcells.cell _ j x q (get k x hx) hq
            exact ⟨u, by rw [show i * ob.es + (k * ob.es + j) = (i + k) * ob.es + j by rw [Nat.add_mul]; omega]; exact c1, c2, c3⟩
      · cases he
    · cases he
  · cases he

theorem cell_alloc_fz (w : World) (c : Array Value) (t : TypeId) (f : Nat × Nat) (i : Nat) : (w.alloc (.cells c t f)).cell? ⟨w.heap.size, i, none⟩ = c[i]? := by
  unfold World.cell?
  rw [heap_alloc_self]
  rfl

theorem mapM_get {α β : Type} {f : α → Option β} : ∀ {xs : List α} {ys : List β}, xs.mapM f = some ys → ys.length = xs.length ∧ ∀ (i : Nat) x, xs[i]? = some x → ∃ y, ys[i]? = some y ∧ f x = some y
  | [], ys, h => by simp at h; subst h; exact ⟨rfl, fun i x h => by simp at h⟩
  | x :: xs, ys, h => by
    simp only [List.mapM_cons, Option.bind_eq_bind, Option.bind_eq_some_iff] at h
    obtain ⟨y, hy, r, hr, h⟩ := h
    simp at h
    subst h
    obtain ⟨h1, h2⟩ := mapM_get hr
    refine ⟨by simp [h1], fun i z hz => ?_⟩
    cases i with
    | zero => simp at hz; subst hz; exact ⟨y, rfl, hy⟩
    | succ i => simpa using h2 i z (by simpa using hz)

theorem byteOf_inv {p : PV} {b : UInt8} (h : byteOf p = some b) : ∃ n, p = .sc (.int .u8 n) ∧ b = UInt8.ofNat n.toNat := by
  unfold byteOf at h
  split at h
  · simp only [Option.some.injEq] at h; exact ⟨_, rfl, h.symm⟩
  · cases h

theorem d_cv {src dst : TypeId} {x : Operand} (hA : LinkOk km A) (hf : FrR km cx K σ w a.tmps fr) (hi : Inv km cx K σ w) (ho : o.op = .convert src dst x) (hc : compO P A o = some po) (he : evO E s fr σ po = some (r, σ')) : OpDone km P cx K σ w o a r σ' := by
  simp only [compO, ho, compConv] at hc
  obtain ⟨x', h1, hc⟩ := Option.bind_eq_some_iff.1 hc
  have r1 := opnd_rep hA hf h1
  split at hc
  · rename_i k0 k hs hd
    simp only [Option.some.injEq] at hc
    subst hc
    simp only [evO] at he
    split at he
    · rename_i k1 n hu
      rw [hu] at r1
      simp only [Option.some.injEq, Prod.mk.injEq] at he
      obtain ⟨rfl, rfl⟩ := he
      exact OpDone.val (v := .int k (k.wrap n)) hi (by simp [execOp, ho, r1.inv_sc.1, convert, run_underlying hs, run_underlying hd, Conv.intToInt]) (.sc _ rfl)
    · cases he
  · rename_i hs hd
    simp only [Option.some.injEq] at hc
    subst hc
    simp only [evO] at he
    split at he
    · rename_i b hu
      rw [hu] at r1
      simp only [Option.some.injEq, Prod.mk.injEq] at he
      obtain ⟨rfl, rfl⟩ := he
      exact OpDone.val (v := .string b) hi (by simp [execOp, ho, r1.inv_sc.1, convert, run_underlying hs, run_underlying hd]) (.sc _ rfl)
    · cases he
  · rename_i e hs hd
    split at hc
    · rename_i hel
      simp only [Option.some.injEq] at hc
      subst hc
      simp only [evO] at he
      split at he
      · rename_i b hu
        rw [hu] at r1
        simp only [Option.some.injEq, Prod.mk.injEq] at he
        obtain ⟨rfl, rfl⟩ := he
        have hrun := run_bytes_of_string (P := P) w src dst e b hs hd hel
        have hb : Below w.heap.size w (w.drew.alloc (.cells (bytesRow b (grownCap w b.size 0 e)) e ((bytesRow b (grownCap w b.size 0 e)).size, (bytesRow b (grownCap w b.size 0 e)).size + 1))) :=
          ((Below.refl _ _).drew).alloc (Nat.le_refl _) _
        obtain ⟨h2, h3⟩ := inv_grow hi hb
        refine ⟨_, _, _, K, by simp only [execOp, ho, r1.inv_sc.1, Sem.run_bind, hrun, Result.andThen_ok]; rfl, rfl, ?_, h2, h3⟩
        have hget : ∀ i, i < b.size → (bytesRow b (grownCap w b.size 0 e))[i]? = some (.int .u8 ((b.data[i]?.getD 0).toNat : Int)) := by
          intro i hi'
          have hlt : i < b.data.size := hi'
          rw [bytesRow_at b _ i hlt, Array.getElem?_eq_getElem hlt]
          rfl
        have hlen : (bytesPV b).length = b.size := by simp [bytesPV]
        refine .sl _ _ _ w.heap.size 0 1 _ (fun i _ => .int .u8 ((b.data[i]?.getD 0).toNat : Int)) hlen.symm (grownCap_ge w _ _ _) (.inr rfl) (clL_of fun p hp => by
          obtain ⟨u, _, rfl⟩ := List.mem_map.1 hp; rfl) (fun i j hi' hj => ?_) (fun i x hx => ?_) (fun i j x p hx hp => ?_)
        · have hj0 : j = 0 := by omega
          subst hj0
          refine ⟨?_, stab_new hi (Nat.le_refl _) (by rw [size_alloc]; exact Nat.lt_succ_self _), rfl⟩
          rw [show 0 + (i * 1 + 0) = i by omega]
          have : (w.drew.alloc (.cells (bytesRow b (grownCap w b.size 0 e)) e ((bytesRow b (grownCap w b.size 0 e)).size, (bytesRow b (grownCap w b.size 0 e)).size + 1))).cell? ⟨w.drew.heap.size, i, none⟩ = (bytesRow b (grownCap w b.size 0 e))[i]? := cell_alloc_fz _ _ _ _ _
          rw [show w.heap.size = w.drew.heap.size from rfl, this]
          exact hget i hi'
        · simp only [bytesPV, List.getElem?_map] at hx
          obtain ⟨u, _, rfl⟩ := Option.map_eq_some_iff.1 hx
          rfl
        · simp only [bytesPV, List.getElem?_map] at hx
          obtain ⟨u, hu', rfl⟩ := Option.map_eq_some_iff.1 hx
          have hj0 : j = 0 := by have := (List.getElem?_eq_some_iff.1 hp).1; simp [cellsOf] at this; exact this
          subst hj0
          simp [cellsOf] at hp
          subst hp
          have : b.data[i]? = some u := by simpa using hu'
          rw [this]
          exact .sc _ rfl
      · cases he
    · cases hc
  · rename_i e hs hd
    split at hc
    · rename_i hel
      simp only [Option.some.injEq] at hc
      subst hc
      simp only [evO] at he
      obtain ⟨xs, hxs, he⟩ := Option.bind_eq_some_iff.1 he
      obtain ⟨l, hl, he⟩ := Option.map_eq_some_iff.1 he
      simp only [Prod.mk.injEq] at he
      obtain ⟨rfl, rfl⟩ := he
      obtain ⟨a0, cap, hv, hcap, hcells⟩ := elems_rep hi r1 hxs
      obtain ⟨m1, m2⟩ := mapM_get hl
      have fin : (convert src dst (.slice a0 xs.length cap)).run P w = .ok (.string ⟨l.toArray⟩) w := by
        have nil0 : xs.length = 0 → (convert src dst (.slice a0 xs.length cap)).run P w = .ok (.string ⟨l.toArray⟩) w := by
          intro h0
          have hl0 : l = [] := List.eq_nil_of_length_eq_zero (by omega)
          subst hl0
          rw [h0]
          cases a0 with
          | none => rw [run_convert_bytes_nil w src e hs hel 0 cap dst hd]; rfl
          | some ad =>
            rw [run_convert_bytes_string w src dst e _ 0 cap hs hel hd, run_bytesToString w ad 0 cap [] (by simp [loadCells, loadCellsFrom])]
            rfl
        rcases hcells with h0 | ⟨b, off, es, rfl, hlen, hcell⟩
        · exact nil0 h0
        · have hes : ∀ (i : Nat) x, xs[i]? = some x → ∃ n, x = .sc (.int .u8 n) ∧ l[i]? = some (UInt8.ofNat n.toNat) := by
            intro i x hx
            obtain ⟨y, hy, hb⟩ := m2 i x hx
            obtain ⟨n, rfl, rfl⟩ := byteOf_inv hb
            exact ⟨n, rfl, hy⟩
          rcases Nat.eq_zero_or_pos xs.length with h0 | h0
          · exact nil0 h0
          · have hes1 : es = 1 := by
              obtain ⟨n, hn, _⟩ := hes 0 _ (List.getElem?_eq_getElem h0)
              have := hlen 0 _ (List.getElem?_eq_getElem h0)
              rw [hn] at this
              simpa [cellsOf] using this.symm
            subst hes1
            let ns : List Int := xs.map fun x => match x with | .sc (.int .u8 n) => n | _ => 0
            have := run_convert_bytes_arg (P := P) w src e hs hel b off xs.length cap ns (by simp [ns]) (fun i hi' => by
              obtain ⟨n, hn, _⟩ := hes i _ (List.getElem?_eq_getElem hi')
              obtain ⟨u, c1, _, c3⟩ := hcell i 0 _ (.sc (.int .u8 n)) (List.getElem?_eq_getElem hi') (by rw [hn]; rfl)
              have hu := c3.inv_sc.1
              subst hu
              rw [show off + i = off + (i * 1 + 0) by omega, c1]
              simp [ns, List.getD, hi', hn]) dst hd
            rw [this]
            congr 2
            unfold strOfNums
            congr 1
            apply Array.ext'
            apply List.ext_getElem?
            intro i
            by_cases hi' : i < xs.length
            · obtain ⟨n, hn, hli⟩ := hes i _ (List.getElem?_eq_getElem hi')
              rw [hli]
              simp [ns, hi', hn]
            · rw [List.getElem?_eq_none (by simp [ns]; omega), List.getElem?_eq_none (by show l.length ≤ i; omega)]
      refine OpDone.val (v := .string ⟨l.toArray⟩) hi ?_ (.sc _ rfl)
      simp only [execOp, ho, hv, Sem.run_bind, fin, Result.andThen_ok]
      rfl
    · cases hc
  · cases hc

theorem d_msl {t : TypeId} {x y : Operand} (hs : Plain s) (hA : LinkOk km A) (hf : FrR km cx K σ w a.tmps fr) (hi : Inv km cx K σ w) (ho : o.op = .makeSlice t x y) (hc : compO P A o = some po) (he : evO E s fr σ po = some (r, σ')) : OpDone km P cx K σ w o a r σ' := by
  simp only [compO, ho] at hc
  split at hc
  · rename_i e ht
    obtain ⟨es, hes, hc⟩ := Option.bind_eq_some_iff.1 hc
    obtain ⟨by_, hby, hc⟩ := Option.bind_eq_some_iff.1 hc
    obtain ⟨z, hz, hc⟩ := Option.bind_eq_some_iff.1 hc
    obtain ⟨z', hz', hc⟩ := Option.bind_eq_some_iff.1 hc
    unfold pickZero at hz'
    split at hz'
    · rename_i hok
      simp only [Option.some.injEq] at hz'
      subst hz'
      obtain ⟨x', h1, hc⟩ := Option.bind_eq_some_iff.1 hc
      obtain ⟨y', h2, hc⟩ := Option.bind_eq_some_iff.1 hc
      split at hc
      · rename_i hq
        obtain ⟨q1, q2, q3⟩ := hq
        simp only [Option.some.injEq] at hc
        subst hc
        have r1 := opnd_rep hA hf h1
        have r2 := opnd_rep hA hf h2
        simp only [evO] at he
        split at he
        · rename_i k1 n1 k2 n2 hu hv
          rw [hu] at r1
          rw [hv] at r2
          split at he
          · rename_i hall
            obtain ⟨b1, b2, b3, b4, b5, b6⟩ := hall
            simp only [Option.some.injEq, Prod.mk.injEq] at he
            obtain ⟨rfl, rfl⟩ := he
            obtain ⟨ie, hie, rfl⟩ := Option.map_eq_some_iff.1 hes
            have hiz : ie.zero = some z := by simpa [zeroB, hie] using hz
            have hib : ie.bytes = by_ := by simpa [bytesB, hie] using hby
            have hrun := run_make (P := P) w t e ie z ht hie hiz k1 k2 n1 n2 b1 b2 (by rw [hib, Int.mul_comm]; omega) (by omega)
            have hzr := zeros_rep (km := km) (K := K) (L := w.cell?) (S := Stab cx K σ w) (n := n2.toNat) hok q3
            have hnn : n1.toNat ≤ n2.toNat := by omega
            have := row_done (s := s) (P := P) (o := o) (a := a) (xs := List.replicate n1.toNat (pv z)) (cells := madeCells z.cells (n2.toNat * ie.size)) (es := ie.size) (w1 := w) (e := e) (cap := n2.toNat) hs hi ⟨rfl, Below.refl _ _⟩ (.inr ⟨by
                rw [size_madeCells]; simp; exact Nat.mul_le_mul_right _ hnn, fun i e he => ?_, fun i j e p he hp => ?_⟩) (by rw [List.length_replicate]; exact hnn) (by rw [size_madeCells]; exact Nat.le_refl _) (by
              simp only [execOp, ho, r1.inv_sc.1, r2.inv_sc.1, Sem.run_bind, hrun, Result.andThen_ok, List.length_replicate]
              rfl)
            · simpa using this
            · exact hzr.2.1 i e (by
                rw [List.getElem?_replicate] at he ⊢
                split at he
                · rw [if_pos (by omega)]; exact he
                · cases he)
            · exact hzr.2.2 i j e p (by
                rw [List.getElem?_replicate] at he ⊢
                split at he
                · rw [if_pos (by omega)]; exact he
                · cases he) hp
          · cases he
        · cases he
      · cases hc
    · cases hz'
  · cases hc

end
end Go.Proofs.YtcpgkdaicglogaaGreatDoorPv
