/-
append, the operation.
-/
import Derived.Test.YtcpgkdaicglogaaGreatDoorPvM
namespace Go.Proofs.YtcpgkdaicglogaaGreatDoorPv
open Go Go.RowKit

section
variable {km : Km} {P : Program} {A : Ann} {cx : Cx km} {K : Nat → Nat → Option Nat} {σ σ' : St} {w : World} {E : Ev} {s : Nat} {fr : Fr} {a : Act} {o : Oper} {po : PO} {r : PV}

theorem cells0 {ad : Addr} (w' : World) : (loadCells ad 0).run P w' = .ok #[] w' := by simp [loadCells, loadCellsFrom]

theorem elemsOf_cells {v : Value} {p : PV} {es : Nat} {ys : List PV} (hi : Inv km cx K σ w) (h : RepS km cx K σ w v p) (he : elemsOf σ p = some ys) (hall : ∀ (i : Nat) y, ys[i]? = some y → (cellsOf y).length = es) :
    ∃ (a : Option Addr) (cap : Nat) (news : List Value), v = .slice a ys.length cap ∧ ys.length ≤ cap ∧ news.length = ys.length * es ∧ (∀ u ∈ news, u.oneCell' = true) ∧ (Builtin.firstCells es ys.length v).run P w = .ok news.toArray w ∧ (Builtin.firstCells es ys.length v).run P w.drew = .ok news.toArray w.drew ∧
      ∀ (i j : Nat) y q, ys[i]? = some y → (cellsOf y)[j]? = some q → ∃ c, news[i * es + j]? = some c ∧ RepS km cx K σ w c q := by
  obtain ⟨a0, cap, rfl, hcap, hcells⟩ := elems_rep hi h he
  by_cases h0 : ys.length * es = 0
  · refine ⟨a0, cap, [], rfl, hcap, by rw [h0]; rfl, fun _ h => (by cases h), ?_, ?_, fun i j y q hy hq => ?_⟩
    · cases a0 with
      | none => simp [Builtin.firstCells]
      | some ad => simp [Builtin.firstCells, h0, cells0]
    · cases a0 with
      | none => simp [Builtin.firstCells]
      | some ad => simp [Builtin.firstCells, h0, cells0]
    · have h1 := (List.getElem?_eq_some_iff.1 hy).1
      have h2 := (List.getElem?_eq_some_iff.1 hq).1
      rw [hall i y hy] at h2
      have := Nat.mul_pos (show 0 < ys.length by omega) (show 0 < es by omega)
      omega
  · have hpos : 0 < ys.length := by
      rcases Nat.eq_zero_or_pos ys.length with h | h
      · rw [h] at h0; simp at h0
      · exact h
    rcases hcells with hz | ⟨b, off, es', rfl, hlen, hcell⟩
    · omega
    · have hes : es' = es := by rw [← hlen 0 _ (List.getElem?_eq_getElem hpos)]; exact hall 0 _ (List.getElem?_eq_getElem hpos)
      subst hes
      have hes0 : 0 < es' := by
        rcases Nat.eq_zero_or_pos es' with h | h
        · rw [h] at h0; simp at h0
        · exact h
      obtain ⟨news, hn, hnews⟩ := list_of (n := ys.length * es') (p := fun k u => w.cell? ⟨b, off + k, none⟩ = some u ∧ u.oneCell' = true ∧ ∀ y q, ys[k / es']? = some y → (cellsOf y)[k % es']? = some q → RepS km cx K σ w u q) fun k hk => by
        have hi' : k / es' < ys.length := Nat.div_lt_of_lt_mul (by rw [Nat.mul_comm]; exact hk)
        have hy := List.getElem?_eq_getElem hi'
        have hj : k % es' < (cellsOf ys[k / es']).length := by rw [hlen _ _ hy]; exact Nat.mod_lt _ hes0
        obtain ⟨u, c1, c2, c3⟩ := hcell _ _ _ _ hy (List.getElem?_eq_getElem hj)
        have : k / es' * es' + k % es' = k := by rw [Nat.mul_comm]; exact Nat.div_add_mod k es'
        rw [this] at c1
        refine ⟨u, c1, c2, fun y q h1 h2 => ?_⟩
        rw [hy] at h1
        simp only [Option.some.injEq] at h1
        subst h1
        rw [List.getElem?_eq_getElem hj] at h2
        simp only [Option.some.injEq] at h2
        rw [← h2]; exact c3
      have hget : ∀ j v, news[j]? = some v → w.cell? ((⟨b, off, none⟩ : Addr).add j) = some v := fun j v hj => by
        rw [Addr.add_lit]; exact (hnews j v hj).1
      refine ⟨some ⟨b, off, none⟩, cap, news, rfl, hcap, hn, fun u hu => ?_, run_firstCells_some w es' ys.length _ _ cap news hn hget, run_firstCells_some w.drew es' ys.length _ _ cap news hn (by simpa using hget), fun i j y q hy hq => ?_⟩
      · obtain ⟨k, hk⟩ := List.getElem?_of_mem hu
        exact (hnews k u hk).2.1
      · have h1 := (List.getElem?_eq_some_iff.1 hy).1
        have h2 := (List.getElem?_eq_some_iff.1 hq).1
        rw [hlen i y hy] at h2
        have hk : i * es' + j < news.length := by
          rw [hn]
          have : (i + 1) * es' ≤ ys.length * es' := Nat.mul_le_mul_right _ h1
          rw [Nat.add_mul] at this; omega
        refine ⟨_, List.getElem?_eq_getElem hk, (hnews _ _ (List.getElem?_eq_getElem hk)).2.2 y q ?_ ?_⟩
        · rw [show (i * es' + j) / es' = i by rw [Nat.mul_comm, Nat.mul_add_div hes0, Nat.div_eq_of_lt h2]; omega]; exact hy
        · rw [show (i * es' + j) % es' = j by rw [Nat.mul_comm, Nat.mul_add_mod]; exact Nat.mod_eq_of_lt h2]; exact hq

theorem src_rep {v : Value} {p : PV} {es : Nat} {ys : List PV} {u : TypeId} (hu : (∃ e', P.underlying u = some (.slice e')) ∨ P.underlying u = some .string) (hi : Inv km cx K σ w) (h : RepS km cx K σ w v p) (he : srcOf σ es p = some ys) (hall : ∀ (i : Nat) y, ys[i]? = some y → (cellsOf y).length = es) :
    ∃ news, Src P es u v ys.length news w ∧ ∀ (i j : Nat) y q, ys[i]? = some y → (cellsOf y)[j]? = some q → ∃ c, news[i * es + j]? = some c ∧ RepS km cx K σ w c q := by
  unfold srcOf at he
  split at he
  · rename_i b
    split at he
    · rename_i hes
      subst hes
      simp only [Option.some.injEq] at he
      subst he
      have hv := h.inv_sc.1
      subst hv
      have hlen : (bytesPV b).length = b.size := by simp [bytesPV]
      rw [hlen]
      refine ⟨byteCells b, ⟨hu, fun _ => rfl, firstCells_string b w, firstCells_string b w.drew, by rw [byteCells_length, Nat.mul_one], fun u hu => by
        obtain ⟨_, _, rfl⟩ := List.mem_map.1 hu
        rfl⟩, fun i j y q hy hq => ?_⟩
      simp only [bytesPV, List.getElem?_map] at hy
      obtain ⟨x, hx, rfl⟩ := Option.map_eq_some_iff.1 hy
      have hj0 : j = 0 := by have := (List.getElem?_eq_some_iff.1 hq).1; simp [cellsOf] at this; exact this
      subst hj0
      simp [cellsOf] at hq
      subst hq
      exact ⟨.int .u8 x.toNat, by simp only [byteCells, List.getElem?_map]; rw [show i * 1 + 0 = i by omega, hx]; rfl, .sc _ rfl⟩
    · cases he
  · obtain ⟨a0, cap, news, rfl, hcap, hn, hone, f1, f2, hg⟩ := elemsOf_cells (P := P) hi h he hall
    exact ⟨news, ⟨hu, fun _ => rfl, f1, f2, hn, hone⟩, hg⟩

/-- A new row of one's own, that may be appended to. -/
theorem row_done' {xs : List PV} {cells : Array Value} {es : Nat} {w1 : World} {e : TypeId} {cap : Nat} {wr : Bool} (hs : s ≠ bldAt ∧ (s = bufAt → e = km.bb)) (hi : Inv km cx K σ w) (hw : w1.heap = w.heap ∧ Below w.heap.size w w1)
    (hr : (∀ (i : Nat) e, xs[i]? = some e → (cellsOf e).length = es) ∧ ∀ (i j : Nat) e p, xs[i]? = some e → (cellsOf e)[j]? = some p → ∃ u, cells[i * es + j]? = some u ∧ u.oneCell' = true ∧ RepS km cx K σ w u p)
    (hcap : xs.length ≤ cap) (hsz : cap * es ≤ cells.size) :
    Inv km cx (Kput K s (σ.c s) w.heap.size) (σ.new s ⟨es, xs, true, wr⟩) (w1.alloc (.cells cells e)) ∧ Ext cx K σ w (Kput K s (σ.c s) w.heap.size) (σ.new s ⟨es, xs, true, wr⟩) (w1.alloc (.cells cells e)) ∧
    RepS km cx (Kput K s (σ.c s) w.heap.size) (σ.new s ⟨es, xs, true, wr⟩) (w1.alloc (.cells cells e)) (.slice (some ⟨w.heap.size, 0, none⟩) xs.length cap) (.ob s (σ.c s) es 0 xs.length) := by
  have hh : w1.heap.size = w.heap.size := by rw [hw.1]
  have hb : Below w.heap.size w (w1.alloc (.cells cells e)) := hw.2.alloc (by rw [hh]; exact Nat.le_refl _) _
  obtain ⟨h1, h2⟩ := inv_new (s := s) (b0 := w.heap.size) (x := ⟨es, xs, true, true⟩) hi hb (Nat.le_refl _) (by rw [size_alloc, hh]; omega)
    hr.1 (fun i j e p he hp => by
      obtain ⟨u, q1, q2, q3⟩ := hr.2 i j e p he hp
      exact ⟨u, by rw [← hh, cell_alloc_self]; exact q1, q2, q3⟩)
    ⟨⟨_, _, _, by rw [← hh]; exact heap_alloc_self w1 _⟩, fun off => by rw [← hh]; exact frozen_alloc_self w1 _ _ off⟩ ⟨rfl, rfl⟩ ⟨fun h => absurd h hs.1, fun h => ⟨cells.size, by unfold World.shape?; rw [← hh, heap_alloc_self, hs.2 h]⟩⟩
  obtain ⟨h3, h4⟩ := inv_weaken (σ' := σ.new s ⟨es, xs, true, wr⟩) h1 rfl (fun o g x' hx => by
    simp only [St.new] at hx ⊢
    split at hx
    · rename_i hq
      simp only [Option.some.injEq] at hx
      subst hx
      exact ⟨⟨es, xs, true, true⟩, by rw [if_pos hq], rfl, rfl, fun _ => rfl, fun _ => rfl⟩
    · rename_i hq
      exact ⟨x', by rw [if_neg hq]; exact hx, rfl, rfl, id, id⟩)
  refine ⟨h3, h2.trans h4, .ob s (σ.c s) es 0 xs.length cap w.heap.size _ Kput_new hcap (.inr (by simp)) fun j hj => ?_⟩
  have hj' : j < cells.size := by
    have : (0 + cap) * es = cap * es := by rw [Nat.zero_add]
    omega
  rw [← hh, cell_alloc_self, Array.getElem?_eq_getElem hj']; rfl

theorem rows_append {xs ys : List PV} {olds news : List Value} {zs : Array Value} {es : Nat} {Q : Value → PV → Prop} (hl : olds.length = xs.length * es)
    (h1 : ∀ (i j : Nat) e p, xs[i]? = some e → (cellsOf e)[j]? = some p → ∃ u, olds[i * es + j]? = some u ∧ Q u p) (h2 : ∀ (i j : Nat) e p, ys[i]? = some e → (cellsOf e)[j]? = some p → ∃ u, news[i * es + j]? = some u ∧ Q u p) :
    ∀ (i j : Nat) e p, (xs ++ ys)[i]? = some e → (cellsOf e)[j]? = some p → ∃ u, ((olds ++ news).toArray ++ zs)[i * es + j]? = some u ∧ Q u p := by
  intro i j e p he hp
  by_cases hlt : i < xs.length
  · rw [List.getElem?_append_left hlt] at he
    obtain ⟨u, c1, c2⟩ := h1 i j e p he hp
    have hk := (List.getElem?_eq_some_iff.1 c1).1
    refine ⟨u, ?_, c2⟩
    rw [Array.getElem?_append_left (by simp; omega)]
    simp only [List.getElem?_toArray]
    rw [List.getElem?_append_left hk]; exact c1
  · rw [List.getElem?_append_right (by omega)] at he
    obtain ⟨u, c1, c2⟩ := h2 _ j e p he hp
    have hk := (List.getElem?_eq_some_iff.1 c1).1
    have hsum : olds.length + ((i - xs.length) * es + j) = i * es + j := by
      rw [hl, ← Nat.add_assoc, ← Nat.add_mul]; congr 2; omega
    refine ⟨u, ?_, c2⟩
    rw [Array.getElem?_append_left (by simp; omega)]
    simp only [List.getElem?_toArray]
    rw [List.getElem?_append_right (by omega), show i * es + j - olds.length = (i - xs.length) * es + j by omega]; exact c1

theorem app_core {c : Call} (hA : LinkOk km A) (hf : FrR km cx K σ w a.tmps fr) (hi : Inv km cx K σ w) (ho : o.op = .call c) (hcl : c.callee = .builtin .append) {sv x : Operand} {t u e : TypeId} {es by_ : Nat} {z : Value} {s' x' : PA} {kw : Bool}
    (hargs : c.args.toList = [sv, x]) (htys : c.argTypes.toList = [t, u]) (ht : P.underlying t = some (.slice e)) (hu : (∃ e', P.underlying u = some (.slice e')) ∨ P.underlying u = some .string)
    (hes : sizeB P e = some es) (hby : bytesB P e = some by_) (hzz : zeroB P e = some z) (h1 : opnd A sv = some s') (h2 : opnd A x = some x') (q1 : 0 < es) (q2 : 0 < by_) (q3 : z.cells.size = es)
    (hs : s ≠ bldAt) (hb : s = bufAt → e = km.bb ∧ ∀ o g es i n, pa fr s' = .ob o g es i n → o = bufAt) (he : evO E s fr σ (.app es by_ kw s' x') = some (r, σ')) : OpDone km P cx K σ w o a r σ' := by
  have r1 := opnd_rep hA hf h1
  have r2 := opnd_rep hA hf h2
  simp only [evO] at he
  obtain ⟨ys, hys, he⟩ := Option.bind_eq_some_iff.1 he
  replace hys : srcOf σ es (pa fr x') = some ys := hys
  split at he
  · rename_i hall
    have hall' : ∀ (i : Nat) y, ys[i]? = some y → (cellsOf y).length = es := fun i y hy => by
      have := List.all_eq_true.1 hall y (List.mem_of_getElem? hy)
      simp only [Bool.and_eq_true, beq_iff_eq] at this
      exact this.2
    obtain ⟨ie, hie, rfl⟩ := Option.map_eq_some_iff.1 hes
    have hib : ie.bytes = by_ := by simpa [bytesB, hie] using hby
    subst hib
    obtain ⟨news, hsrc, hnews⟩ := src_rep hu hi r2 hys hall'
    have hexec : ∀ v w', (Builtin.append_ #[t, u] o.type #[a.eval sv, a.eval x]).run P w = .ok v w' → (execOp a.eval o).run P w = .ok (.value v) w' := by
      intro v w' h
      have e1 : c.args.map a.eval = #[a.eval sv, a.eval x] := by
        apply Array.ext'
        rw [Array.toList_map, hargs]; rfl
      have e2 : c.argTypes = #[t, u] := by
        apply Array.ext'
        rw [htys]
      simp [execOp, ho, resolve, hcl, invoke, builtin, e1, e2, h]
    have hz : ie.zero = some z := by simpa [zeroB, hie] using hzz
    -- the arm that grows
    have grow : ∀ (xs : List PV) (base : Option Addr) (cap : Nat) (olds : List Value) (σ1 : St) (wr : Bool), a.eval sv = .slice base xs.length cap → Inv km cx K σ1 w → Ext cx K σ w K σ1 w → cap < xs.length + ys.length → (xs.length + ys.length) * ie.bytes ≤ 70368744177664 →
        olds.length = xs.length * ie.size → (∀ v ∈ olds, v.oneCell' = true) → (∀ (i : Nat) e, xs[i]? = some e → (cellsOf e).length = ie.size) →
        (Builtin.firstCells ie.size xs.length (a.eval sv)).run P w.drew = .ok olds.toArray w.drew → (∀ (i j : Nat) y q, xs[i]? = some y → (cellsOf y)[j]? = some q → ∃ c, olds[i * ie.size + j]? = some c ∧ RepS km cx K σ w c q) →
        OpDone km P cx K σ w o a (.ob s (σ1.c s) ie.size 0 (xs.length + ys.length)) (σ1.new s ⟨ie.size, xs ++ ys, true, wr⟩) := by
      intro xs base cap olds σ1 wr hbase hi1 hx1 hlt hbd hol hone hxl hold hxs
      have hpos : xs.length + ys.length ≤ (xs.length + ys.length) * ie.bytes := Nat.le_mul_of_pos_right _ q2
      rw [hbase] at hold
      have hrun := run_append_grow_src (P := P) w t u o.type e ie z ht hie hz base xs.length cap olds hold (a.eval x) ys.length news hsrc hlt (by omega) (growslice_fits hlt (by omega))
      rw [← hbase] at hrun
      have hge := grownCap_ge w (xs.length + ys.length) cap e
      have := row_done' (s := s) (xs := xs ++ ys) (cells := (olds ++ news).toArray ++ Builtin.zeroCells z.cells (grownCap w (xs.length + ys.length) cap e - (xs.length + ys.length))) (es := ie.size) (w1 := w.drew) (e := e) (cap := grownCap w (xs.length + ys.length) cap e) (wr := wr) ⟨hs, fun h => (hb h).1⟩ hi1 ⟨rfl, (Below.refl _ _).drew⟩
        ⟨fun i y hy => by
          by_cases hl : i < xs.length
          · rw [List.getElem?_append_left hl] at hy; exact hxl i y hy
          · rw [List.getElem?_append_right (by omega)] at hy; exact hall' _ y hy,
         fun i j y q hy hq => by
          obtain ⟨u, c1, c2, c3⟩ := rows_append (zs := Builtin.zeroCells z.cells (grownCap w (xs.length + ys.length) cap e - (xs.length + ys.length))) (Q := fun u p => u.oneCell' = true ∧ RepS km cx K σ w u p) hol
            (fun i j y q hy hq => by obtain ⟨c, d1, d2⟩ := hxs i j y q hy hq; exact ⟨c, d1, hone c (List.mem_of_getElem? d1), d2⟩)
            (fun i j y q hy hq => by obtain ⟨c, d1, d2⟩ := hnews i j y q hy hq; exact ⟨c, d1, hsrc.one c (List.mem_of_getElem? d1), d2⟩) i j y q hy hq
          exact ⟨u, c1, c2, hx1.rep c3⟩⟩
        (by simpa using hge) (by
          have hsz : ((olds ++ news).toArray ++ Builtin.zeroCells z.cells (grownCap w (xs.length + ys.length) cap e - (xs.length + ys.length))).size = (xs.length + ys.length) * ie.size + (grownCap w (xs.length + ys.length) cap e - (xs.length + ys.length)) * ie.size := by
            simp [size_zeroCells, hol, hsrc.newsLen, q3, Nat.add_mul]
          rw [hsz, ← Nat.add_mul]
          exact Nat.mul_le_mul_right _ (by omega))
      obtain ⟨g1, g2, g3⟩ := this
      refine ⟨_, _, _, _, hexec _ _ hrun, rfl, ?_, g1, hx1.trans g2⟩
      simpa using g3
    split at he
    · -- nothing yet
      rename_i hem
      rw [hem] at r1
      generalize hsv : a.eval sv = vs at r1
      cases r1 with
      | em base =>
        split at he
        · rename_i hbd
          split at he
          · rename_i hemp
            have hy0 : ys = [] := by simpa using hemp
            subst hy0
            simp only [Option.some.injEq, Prod.mk.injEq] at he
            obtain ⟨rfl, rfl⟩ := he
            have hn0 : news = [] := List.eq_nil_of_length_eq_zero (by rw [hsrc.newsLen]; simp)
            subst hn0
            refine ⟨_, _, _, K, hexec (.slice base 0 0) w ?_, rfl, .em base, hi, Ext.refl⟩
            have hl := hsrc.len w
            have hcc := hsrc.cells
            simp only [List.length_nil] at hl hcc
            rw [hsv]
            rcases hsrc.kind with ⟨e', hk⟩ | hk <;> cases base <;> simp [Builtin.append_, run_underlying ht, run_underlying hk, sizeOf, typeInfo, hie, hl, hcc, storeCells]
          · rename_i hne
            simp only [Option.some.injEq, Prod.mk.injEq] at he
            obtain ⟨rfl, rfl⟩ := he
            have hyp : 0 < ys.length := by
              cases ys with
              | nil => simp at hne
              | cons y ys => simp
            have := grow [] base 0 [] σ true hsv hi Ext.refl (by simpa using hyp) (by simpa using hbd) (by simp) (fun v h => by cases h) (fun i e h => by simp at h) (by
              rw [hsv]
              cases base with
              | none => simp [Builtin.firstCells]
              | some ad => simp [Builtin.firstCells, cells0]) (fun i j y q h => by simp at h)
            simpa using this
        · cases he
    · -- nil
      rename_i hem
      rw [hem] at r1
      have hsv := r1.inv_sc.1
      split at he
      · rename_i hbd
        split at he
        · rename_i hemp
          have hy0 : ys = [] := by simpa using hemp
          subst hy0
          simp only [Option.some.injEq, Prod.mk.injEq] at he
          obtain ⟨rfl, rfl⟩ := he
          have hn0 : news = [] := List.eq_nil_of_length_eq_zero (by rw [hsrc.newsLen]; simp)
          subst hn0
          refine ⟨_, _, _, K, hexec (.slice none 0 0) w ?_, rfl, .sc _ rfl, hi, Ext.refl⟩
          have hl := hsrc.len w
          have hcc := hsrc.cells
          simp only [List.length_nil] at hl hcc
          rw [hsv]
          rcases hsrc.kind with ⟨e', hk⟩ | hk <;> simp [Builtin.append_, run_underlying ht, run_underlying hk, sizeOf, typeInfo, hie, hl, hcc]
        · rename_i hne
          simp only [Option.some.injEq, Prod.mk.injEq] at he
          obtain ⟨rfl, rfl⟩ := he
          have hyp : 0 < ys.length := by
            cases ys with
            | nil => simp at hne
            | cons y ys => simp
          have := grow [] none 0 [] σ true hsv hi Ext.refl (by simpa using hyp) (by simpa using hbd) (by simp) (fun v h => by cases h) (fun i e h => by simp at h) (by
            rw [hsv]
            simp [Builtin.firstCells]) (fun i j y q h => by simp at h)
          simpa using this
      · cases he
    · rename_i o1 g1 es' i n hob
      rw [hob] at r1
      split at he
      · rename_i y hy
        split at he
        · rename_i hcond
          obtain ⟨c1, c2, c3, c4, c5, c6⟩ := hcond
          obtain ⟨yes, yxs, yal, ywr⟩ := y
          simp only at c1 c4 c5 c6
          subst c1 c2 c3 c5
          simp only [Option.some.injEq, Prod.mk.injEq] at he
          obtain ⟨rfl, rfl⟩ := he
          have helems : elemsOf σ (.ob o1 g1 ie.size 0 n) = some yxs := by
            simp only [elemsOf, hy]
            rw [if_pos ⟨trivial, by omega⟩]
            simp [c4]
          have hyl : ∀ (i : Nat) e, yxs[i]? = some e → (cellsOf e).length = ie.size := by
            obtain ⟨b, _, hcells⟩ := hi.dom _ _ _ hy
            intro i e h
            exact hcells.len i e h
          obtain ⟨a0, cap0, olds, hv0, hcap0, hol, hone, _, hold, hxs⟩ := elemsOf_cells (P := P) hi r1 helems hyl
          generalize hsv : a.eval sv = vs at r1 hv0 hold
          cases r1 with
          | ob _ _ _ _ _ cap b base hk hn hba hcs =>
            simp only [Value.slice.injEq] at hv0
            obtain ⟨rfl, rfl, rfl⟩ := hv0
            by_cases hroom : yxs.length + ys.length ≤ cap
            · have hkb := hi.kb _ _ _ hk
              have hcs' : ∀ j, j < cap * ie.size → (w.cell? ⟨b, j, none⟩).isSome = true := fun j hj => hcs j (by simpa using hj)
              have hbnd : yxs.length * ie.size + news.length ≤ cap * ie.size := by
                rw [hsrc.newsLen, ← Nat.add_mul]; exact Nat.mul_le_mul_right _ hroom
              have hwrun : (Builtin.append_ #[t, u] o.type #[a.eval sv, a.eval x]).run P w = .ok (.slice base (yxs.length + ys.length) cap) (w.setCells b (yxs.length * ie.size) news) := by
                rw [hsv]
                rcases hba with h0 | h0
                · subst h0
                  have hn0 : news = [] := List.eq_nil_of_length_eq_zero (by omega)
                  have hy0 : ys.length = 0 := by omega
                  have hx0 : yxs.length = 0 := by omega
                  subst hn0
                  have hl := hsrc.len w
                  have hcc := hsrc.cells
                  rw [hy0] at hl hcc
                  rcases hsrc.kind with ⟨e', hk'⟩ | hk' <;> cases base <;> simp [Builtin.append_, run_underlying ht, run_underlying hk', sizeOf, typeInfo, hie, hl, hcc, storeCells, hx0, hy0, World.setCells]
                · subst h0
                  have := run_append_room_src (P := P) w t u o.type e ie ht hie b (0 * ie.size) yxs.length cap (a.eval x) ys.length news hsrc hroom (fun j hj => by
                      rw [Nat.zero_mul, Nat.zero_add]; exact hcs' _ (by omega)) (fun j hj => by
                      rw [Nat.zero_mul, Nat.zero_add]
                      cases hfz : w.frozen? ⟨b, yxs.length * ie.size + j, none⟩ with
                      | false => rfl
                      | true =>
                        have := ((hi.alv _ _ _ _ hy rfl hk).2 _ hfz).2
                        simp only at this
                        omega)
                  rw [show 0 * ie.size + yxs.length * ie.size = yxs.length * ie.size by omega] at this
                  exact this
              have hroomI := inv_room (s := s) (σ' := (σ.put o1 g1 (if kw then none else some ⟨ie.size, yxs, false, false⟩)).new s ⟨ie.size, yxs ++ ys, true, ywr && kw⟩) (wr' := ywr && kw) ⟨fun h => absurd h hs, fun h => (hi.bld _ _ _ hk).2 ((hb h).2 _ _ _ _ _ hob)⟩ hi hy rfl hk news ys
                (fun k hk2 => hcs' _ (Nat.lt_of_lt_of_le (Nat.add_lt_add_left hk2 _) hbnd)) hsrc.one (fun i e h => by exact hall' i e h) (fun i j e p h1 h2 => by exact hnews i j e p h1 h2)
                (fun o' g' x' hx => by
                  have hx : (if o' = s ∧ g' = σ.c s then some ⟨ie.size, yxs ++ ys, true, ywr && kw⟩ else if o' = o1 ∧ g' = g1 then (if kw then none else some ⟨ie.size, yxs, false, false⟩) else σ.m o' g' : Option Obj) = some x' := hx
                  by_cases hq : o' = s ∧ g' = σ.c s
                  · rw [if_pos hq] at hx
                    simp only [Option.some.injEq] at hx
                    exact .inl ⟨hq.1, hq.2, hx.symm⟩
                  · rw [if_neg hq] at hx
                    by_cases hq2 : o' = o1 ∧ g' = g1
                    · rw [if_pos hq2] at hx
                      refine .inr (.inl ⟨hq2.1, hq2.2, hq, ?_⟩)
                      cases hkw : kw <;> rw [hkw] at hx <;> simp at hx
                      exact hx.symm
                    · rw [if_neg hq2] at hx
                      exact .inr (.inr ⟨hq2, hq, hx⟩))
                (fun hw => by
                  simp only [Bool.and_eq_true] at hw
                  refine ⟨hw.1, fun x' hx => ?_⟩
                  simp only [St.new, St.put, hw.2] at hx
                  split at hx
                  · assumption
                  · simp at hx) rfl
              obtain ⟨g1', g2'⟩ := hroomI
              refine ⟨_, _, _, _, hexec _ _ hwrun, rfl, ?_, g1', g2'⟩
              exact .ob s (σ.c s) ie.size 0 (yxs.length + ys.length) cap b base Kput_new hroom hba fun j hj => g2'.some_ _ (hcs j hj)
            · have hcm : (if kw then (none : Option Obj) else some ⟨ie.size, yxs, false, false⟩) = none ∨ (if kw then (none : Option Obj) else some ⟨ie.size, yxs, false, false⟩) = some ⟨ie.size, yxs, false, false⟩ := by
                cases kw <;> simp
              obtain ⟨w1, w2⟩ := inv_weaken (σ' := σ.put o1 g1 (if kw then none else some ⟨ie.size, yxs, false, false⟩)) hi rfl (fun o g x' hx => by
                simp only [St.put] at hx
                split at hx
                · rename_i hq
                  obtain ⟨rfl, rfl⟩ := hq
                  rcases hcm with h | h
                  · rw [h] at hx; cases hx
                  · rw [h] at hx
                    simp only [Option.some.injEq] at hx
                    subst hx
                    exact ⟨_, hy, rfl, rfl, (fun h => by cases h), (fun h => by cases h)⟩
                · exact ⟨x', hx, rfl, rfl, id, id⟩)
              exact grow yxs base cap olds _ (ywr && kw) hsv w1 w2 (by omega) c6 hol hone hyl (by rw [hsv]; exact hold) hxs
        · cases he
      · cases he
    · cases he
  · cases he

theorem appb_app {kw : Bool} {s' x' : PA} (he : evO E s fr σ (.appb kw s' x') = some (r, σ')) : evO E bufAt fr σ (.app 1 1 kw s' x') = some (r, σ') ∧ ∀ o g es i n, pa fr s' = .ob o g es i n → o = bufAt := by
  simp only [evO] at he ⊢
  obtain ⟨ys, hys, he⟩ := Option.bind_eq_some_iff.1 he
  rw [hys]
  simp only [Option.bind_some]
  split at he
  · rename_i hall
    rw [if_pos hall]
    cases hp : pa fr s' with
    | sc v =>
      rw [hp] at he
      split at he
      · rename_i hq
        simp only [PV.sc.injEq] at hq
        subst hq
        exact ⟨he, fun o g es i n h => by cases h⟩
      · rename_i hq; cases hq
      · cases he
    | ob o g es' i n =>
      rw [hp] at he
      simp only at he ⊢
      cases hm : σ.m o g with
      | none => rw [hm] at he; cases he
      | some y =>
        rw [hm] at he
        simp only at he ⊢
        split at he
        · rename_i hc
          obtain ⟨rfl, hc⟩ := hc
          exact ⟨by rw [if_pos hc]; exact he, fun o g es i n h => by simp only [PV.ob.injEq] at h; exact h.1.symm⟩
        · cases he
    | _ => rw [hp] at he; cases he
  · cases he

theorem d_app {c : Call} (hs : Plain s) (hA : LinkOk km A) (hf : FrR km cx K σ w a.tmps fr) (hi : Inv km cx K σ w) (ho : o.op = .call c) (hcl : c.callee = .builtin .append) (hc : compO P A o = some po) (he : evO E s fr σ po = some (r, σ')) : OpDone km P cx K σ w o a r σ' := by
  simp only [compO, ho, compCall, hcl] at hc
  split at hc
  · rename_i sv x t u hargs htys
    have main : ∀ e, P.underlying t = some (.slice e) → ((∃ e', P.underlying u = some (.slice e')) ∨ P.underlying u = some .string) →
        ((sizeB P e).bind fun es => (bytesB P e).bind fun by_ => (zeroB P e).bind fun z => (opnd A sv).bind fun s' => (opnd A x).bind fun x' => if 0 < es ∧ 0 < by_ ∧ z.cells.size = es then (if A.bb = some e then (if es = 1 ∧ by_ = 1 then some (PO.appb A.kw s' x') else none) else some (PO.app es by_ (A.kw && es != 1) s' x')) else none) = some po → OpDone km P cx K σ w o a r σ' := by
      intro e ht hu hc
      obtain ⟨es, hes, hc⟩ := Option.bind_eq_some_iff.1 hc
      obtain ⟨by_, hby, hc⟩ := Option.bind_eq_some_iff.1 hc
      obtain ⟨z, hzz, hc⟩ := Option.bind_eq_some_iff.1 hc
      obtain ⟨s', h1, hc⟩ := Option.bind_eq_some_iff.1 hc
      obtain ⟨x', h2, hc⟩ := Option.bind_eq_some_iff.1 hc
      by_cases hq : 0 < es ∧ 0 < by_ ∧ z.cells.size = es
      · rw [if_pos hq] at hc
        obtain ⟨q1, q2, q3⟩ := hq
        by_cases hbb : A.bb = some e
        · rw [if_pos hbb] at hc
          by_cases h11 : es = 1 ∧ by_ = 1
          · rw [if_pos h11] at hc
            have hpo : po = PO.appb A.kw s' x' := (Option.some.inj hc).symm
            obtain ⟨rfl, rfl⟩ := h11
            rw [hpo] at he
            obtain ⟨k1, k2⟩ := appb_app he
            exact app_core (s := bufAt) hA hf hi ho hcl hargs htys ht hu hes hby hzz h1 h2 q1 q2 q3 (by decide) (fun _ => ⟨(hA.bb e hbb).symm, k2⟩) k1
          · rw [if_neg h11] at hc; cases hc
        · rw [if_neg hbb] at hc
          simp only [Option.some.injEq] at hc
          subst hc
          exact app_core hA hf hi ho hcl hargs htys ht hu hes hby hzz h1 h2 q1 q2 q3 (by intro h; unfold Plain bldAt at *; omega) (fun h => by exfalso; unfold Plain bufAt at *; omega) he
      · rw [if_neg hq] at hc; cases hc
    split at hc
    · rename_i e e' ht hu
      exact main e ht (.inl ⟨e', hu⟩) hc
    · rename_i e ht hu
      exact main e ht (.inr hu) hc
    · cases hc
  · cases hc

theorem d_clr {c : Call} (hA : LinkOk km A) (hf : FrR km cx K σ w a.tmps fr) (hi : Inv km cx K σ w) (ho : o.op = .call c) (hcl : c.callee = .builtin .clear) (hc : compO P A o = some po) (he : evO E s fr σ po = some (r, σ')) : OpDone km P cx K σ w o a r σ' := by
  simp only [compO, ho, compCall, hcl] at hc
  split at hc
  · rename_i x t hargs htys
    split at hc
    · rename_i e ht
      obtain ⟨es, hes, hc⟩ := Option.bind_eq_some_iff.1 hc
      obtain ⟨z, hz, hc⟩ := Option.bind_eq_some_iff.1 hc
      obtain ⟨z', hz', hc⟩ := Option.bind_eq_some_iff.1 hc
      unfold pickZero at hz'
      split at hz'
      · rename_i hok
        simp only [Option.some.injEq] at hz'
        subst hz'
        obtain ⟨x', h1, hc⟩ := Option.bind_eq_some_iff.1 hc
        split at hc
        · rename_i hq
          obtain ⟨q1, q3⟩ := hq
          simp only [Option.some.injEq] at hc
          subst hc
          have r1 := opnd_rep hA hf h1
          have hca : c.args = #[x] := by simpa using congrArg List.toArray hargs
          have hct : c.argTypes = #[t] := by simpa using congrArg List.toArray htys
          simp only [evO] at he
          split at he
          · rename_i hu
            rw [hu] at r1
            simp only [Option.some.injEq, Prod.mk.injEq] at he
            obtain ⟨rfl, rfl⟩ := he
            generalize hvx : a.eval x = vx at r1
            cases r1 with
            | em ad =>
              refine ⟨.value (.tuple #[]), .tuple #[], w, K, ?_, rfl, .tu [] [] rfl (fun i v p h => by simp at h), hi, Ext.refl⟩
              cases ad <;> simp [execOp, ho, hcl, hca, hct, hvx, resolve, invoke, builtin, Builtin.clear_, run_underlying ht]
          · rename_i o1 g1 es' i n hu
            rw [hu] at r1
            split at he
            · rename_i y hy
              split at he
              · rename_i hall
                obtain ⟨rfl, rfl, y1, y2, y3⟩ := hall
                simp only [Option.some.injEq, Prod.mk.injEq] at he
                obtain ⟨rfl, rfl⟩ := he
                generalize hvx : a.eval x = vx at r1
                cases r1 with
                | ob _ _ _ _ _ cap b ad hk hnc had hcells0 =>
                  obtain ⟨b', hk', hcells⟩ := hi.dom _ _ _ hy
                  obtain rfl : b' = b := by rw [hk] at hk'; simpa using hk'.symm
                  obtain ⟨z1, z2⟩ := rep_cells (km := km) (L := w.cell?) (S := Stab cx K σ w) (K := K) (rep_pv hok) (okc_pv hok)
                  have hzl : (cellsOf (pv z)).length = y.es := by rw [← z1]; exact q3
                  rcases Nat.eq_zero_or_pos n with hn | hn
                  · subst hn
                    have hsame : σ.put o1 g1 (some { y with xs := y.xs.take i ++ List.replicate 0 (pv z) ++ y.xs.drop (i + 0) }) = σ := by
                      have hx : y.xs.take i ++ List.replicate 0 (pv z) ++ y.xs.drop (i + 0) = y.xs := by simp
                      rw [hx]
                      unfold St.put
                      obtain ⟨m, c⟩ := σ
                      congr 1
                      funext o' g'
                      simp only at hy ⊢
                      split
                      · rename_i h; obtain ⟨rfl, rfl⟩ := h; exact hy.symm
                      · rfl
                    rw [hsame]
                    refine ⟨.value (.tuple #[]), .tuple #[], w, K, ?_, rfl, .tu [] [] rfl (fun i v p h => by simp at h), hi, Ext.refl⟩
                    cases ad <;> simp [execOp, ho, hcl, hca, hct, hvx, resolve, invoke, builtin, Builtin.clear_, run_underlying ht]
                  · have hadd : ad = some ⟨b', i * y.es, none⟩ := by
                      rcases had with h | h
                      · omega
                      · exact h
                    subst hadd
                    have hzs : Builtin.zeroCells z.cells n = (Array.range (n * y.es)).map fun k => z.cells[k % y.es]! := by unfold Builtin.zeroCells; rw [q3]
                    have hvl : (Builtin.zeroCells z.cells n).toList.length = n * y.es := by rw [hzs]; simp
                    have hvk : ∀ k, k < n * y.es → ∃ u, (Builtin.zeroCells z.cells n).toList[k]? = some u ∧ z.cells[k % y.es]? = some u := by
                      intro k hk2
                      have hj : k % y.es < z.cells.size := by rw [q3]; exact Nat.mod_lt _ q1
                      refine ⟨z.cells[k % y.es], ?_, by simp [hj]⟩
                      rw [hzs]
                      simp only [Array.getElem?_toList, Array.getElem?_map, Array.getElem?_range]
                      rw [if_pos hk2]
                      simp [hj]
                    have hone : ∀ v ∈ (Builtin.zeroCells z.cells n).toList, v.oneCell' = true := by
                      intro v hv
                      obtain ⟨k, hk2⟩ := List.getElem?_of_mem hv
                      have hlt := (List.getElem?_eq_some_iff.1 hk2).1
                      obtain ⟨u, u1, u2⟩ := hvk k (by omega)
                      rw [hk2] at u1
                      simp only [Option.some.injEq] at u1
                      subst u1
                      have hj : k % y.es < (cellsOf (pv z)).length := by rw [hzl]; exact Nat.mod_lt _ q1
                      obtain ⟨u', c1, c2, _⟩ := z2 _ _ (List.getElem?_eq_getElem hj)
                      rw [u2] at c1
                      simp only [Option.some.injEq] at c1
                      rw [c1]; exact c2
                    have hbd : i * y.es + n * y.es ≤ y.xs.length * y.es := by
                      rw [← Nat.add_mul]; exact Nat.mul_le_mul_right _ y3
                    have hst := run_storeCells_cells (P := P) b' (i * y.es) (Builtin.zeroCells z.cells n).toList 0 w (fun k hk2 => obj_cell hcells (by omega)) (fun k hk2 => by
                      cases hfz : w.frozen? ⟨b', i * y.es + 0 + k, none⟩ with
                      | false => rfl
                      | true =>
                        have := ((hi.alv _ _ _ _ hy y1 hk).2 _ hfz).1
                        rw [y2] at this; cases this) hone
                    simp only [Nat.add_zero] at hst
                    have hrun : (execOp a.eval o).run P w = .ok (.value (.tuple #[])) (w.setCells b' (i * y.es) (Builtin.zeroCells z.cells n).toList) := by
                      obtain ⟨n', rfl⟩ : ∃ n', n = n' + 1 := ⟨n - 1, by omega⟩
                      simp [execOp, ho, hcl, hca, hct, hvx, resolve, invoke, builtin, Builtin.clear_, run_underlying ht, run_zero hz, hst]
                    have hget : ∀ (i2 : Nat) e, (y.xs.take i ++ List.replicate n (pv z) ++ y.xs.drop (i + n))[i2]? = some e → (i ≤ i2 ∧ i2 < i + n ∧ e = pv z) ∨ ((i2 < i ∨ i + n ≤ i2) ∧ y.xs[i2]? = some e) := by
                      intro i2 e he2
                      have hti : (y.xs.take i).length = i := by rw [List.length_take]; omega
                      by_cases c1 : i2 < i
                      · rw [List.append_assoc, List.getElem?_append_left (by omega), List.getElem?_take, if_pos c1] at he2
                        exact .inr ⟨.inl c1, he2⟩
                      · rw [List.append_assoc, List.getElem?_append_right (by omega), hti] at he2
                        by_cases c2 : i2 < i + n
                        · rw [List.getElem?_append_left (by simp; omega), List.getElem?_replicate, if_pos (by omega)] at he2
                          simp only [Option.some.injEq] at he2
                          exact .inl ⟨by omega, c2, he2.symm⟩
                        · rw [List.getElem?_append_right (by simp; omega), List.length_replicate, List.getElem?_drop] at he2
                          rw [show i + n + (i2 - i - n) = i2 by omega] at he2
                          exact .inr ⟨.inr (by omega), he2⟩
                    obtain ⟨f1, f2⟩ := inv_set hi (x' := { y with xs := y.xs.take i ++ List.replicate n (pv z) ++ y.xs.drop (i + n) }) hy y1 y2 hk (i * y.es) (Builtin.zeroCells z.cells n).toList hone (by omega) ⟨rfl, y1, y2, by simp; omega⟩
                      (fun i2 e he2 => by
                        rcases hget i2 e he2 with ⟨_, _, rfl⟩ | ⟨_, h⟩
                        · exact hzl
                        · exact hcells.len i2 e h)
                      (fun i2 j2 e p he2 hp => by
                        rcases hget i2 e he2 with ⟨c1, c2, rfl⟩ | ⟨c1, h⟩
                        · left
                          have hj2 : j2 < y.es := by rw [← hzl]; exact (List.getElem?_eq_some_iff.1 hp).1
                          have hge : i * y.es ≤ i2 * y.es := Nat.mul_le_mul_right _ c1
                          have hsub : i2 * y.es - i * y.es = (i2 - i) * y.es := by rw [Nat.sub_mul]
                          have hlt : (i2 - i) * y.es + j2 < n * y.es := by
                            have : (i2 - i + 1) * y.es ≤ n * y.es := Nat.mul_le_mul_right _ (by omega)
                            rw [Nat.add_mul] at this; omega
                          obtain ⟨u, u1, u2⟩ := hvk _ hlt
                          have hm : ((i2 - i) * y.es + j2) % y.es = j2 := by rw [Nat.mul_comm, Nat.mul_add_mod]; exact Nat.mod_eq_of_lt hj2
                          rw [hm] at u2
                          obtain ⟨u', d1, _, d3⟩ := z2 j2 p hp
                          rw [u2] at d1
                          simp only [Option.some.injEq] at d1
                          subst d1
                          refine ⟨by omega, u, ?_, d3⟩
                          rw [show i2 * y.es + j2 - i * y.es = (i2 - i) * y.es + j2 by omega]
                          exact u1
                        · right
                          have hj2 : j2 < y.es := by rw [← hcells.len i2 e h]; exact (List.getElem?_eq_some_iff.1 hp).1
                          refine ⟨?_, e, h, hp⟩
                          rw [hvl]
                          rcases c1 with c1 | c1
                          · left
                            have : (i2 + 1) * y.es ≤ i * y.es := Nat.mul_le_mul_right _ c1
                            rw [Nat.add_mul] at this; omega
                          · right
                            have : (i + n) * y.es ≤ i2 * y.es := Nat.mul_le_mul_right _ c1
                            rw [Nat.add_mul] at this; omega)
                    exact ⟨_, .tuple #[], _, K, hrun, rfl, .tu [] [] rfl (fun i v p h => by simp at h), f1, f2⟩
              · cases he
            · cases he
          · cases he
        · cases hc
      · cases hz'
    · cases hc
  · cases hc

end
end Go.Proofs.YtcpgkdaicglogaaGreatDoorPv
