/-
Library functions that are told by hand: slices.Insert, slices.Delete, of elements of any size: what their texts do to memory.
-/
import Derived.Test.YtcpgkdaicglogaaGreatDoorPvMm
import Derived.Shelf.Spec.SlicesInsertGrow
import Derived.Shelf.Slices.Delete
namespace Go.Proofs.YtcpgkdaicglogaaGreatDoorPv
open Go Go.RowKit Go.Shelf Go.Lib
set_option linter.unusedVariables false
set_option linter.unusedSimpArgs false
variable {P : Program} {ρ : Ren}

theorem run_copy_k (w : World) (dT sT ty elem : TypeId) (es b o dLen dCap : Nat) (a : Addr) (sLen sCap m : Nat) (cs : List Value)
    (hu : P.underlying dT = some (.slice elem)) (hs : (P.info? elem).map (·.size) = some es) (hm : Nat.min sLen dLen = m) (hn : cs.length = m * es)
    (hsrc : ∀ j v, cs[j]? = some v → w.cell? (a.add j) = some v) (hc : ∀ j, j < cs.length → (w.cell? ⟨b, o + j, none⟩).isSome = true) (hf : ∀ j, j < cs.length → w.frozen? ⟨b, o + j, none⟩ = false) (h1 : ∀ v ∈ cs, v.oneCell' = true) :
    (Builtin.copy_ #[dT, sT] ty #[.slice (some ⟨b, o, none⟩) dLen dCap, .slice (some a) sLen sCap]).run P w = .ok (goInt m) (w.setCells b o cs) := by
  have hl := run_loadCells_list (P := P) w a cs hsrc
  have hst := run_storeCells_cells (P := P) b o cs 0 w (by simpa using hc) (by simpa using hf) h1
  cases hq : P.info? elem with
  | none => simp [hq] at hs
  | some i =>
    have hi : i.size = es := by simpa [hq] using hs
    simp [Builtin.copy_, run_underlying hu, Builtin.lenOf, Builtin.firstCells, sizeOf, typeInfo, hq, hi, ← hn, hm, hl, hst]

/-- The numbers: of a slice's type, its elements', int, bool; of overlaps, rotateRight. -/
def rhoK (S E I B O R : Nat) : Ren := ⟨fun n => if n = 29 then O else R, fun n => if n = 24 then S else if n = 9 then E else if n = 3 then I else if n = 4 then B else 0, fun n => n⟩

/-- What a program must bear, that 'slices.Insert' is walked: the body is that of the toy of names, by other numbers. -/
structure InsOk (P : Program) (ρ : Ren) (f es by_ : Nat) (z : Value) : Prop where
  mixed : P.follows .mixedOrders = true
  fn : ∃ nm og ta nr ou, P.funcs[f]? = some { Body2.n22 ρ with name := nm, origin := og, targs := ta, norace := nr, ours := ou }
  ov : ∀ args w, (callFunc (ρ.f 29) args).run P w = ((Extern.SlicesOverlaps.overlaps #[ρ.t 24, ρ.t 24] #[ρ.t 4] args).run P w).andThen fun v w' => .ok (.value v) w'
  t3 : P.underlying (ρ.t 3) = some (TypeDesc.int IntKind.i64)
  t4 : P.underlying (ρ.t 4) = some TypeDesc.bool
  t24 : P.underlying (ρ.t 24) = some (TypeDesc.slice (ρ.t 9))
  i9 : (P.info? (ρ.t 9)).map (fun i => (i.zero, i.size, i.bytes)) = some (some z, es, by_)
  zc : z.cells.size = es
  es0 : 0 < es
  a3 : ∀ w, (isAgg (ρ.t 3)).run P w = .ok false w
  a4 : ∀ w, (isAgg (ρ.t 4)).run P w = .ok false w
  a24 : ∀ w, (isAgg (ρ.t 24)).run P w = .ok false w
  z3 : ∀ w, (Go.sizeOf (ρ.t 3)).run P w = .ok 1 w
  z4 : ∀ w, (Go.sizeOf (ρ.t 4)).run P w = .ok 1 w
  z9 : ∀ w, (Go.sizeOf (ρ.t 9)).run P w = .ok es w
  z24 : ∀ w, (Go.sizeOf (ρ.t 24)).run P w = .ok 1 w

section
variable {f es by_ : Nat} {z : Value}

set_option maxHeartbeats 4000000 in
set_option maxRecDepth 100000 in
/-- There is room, i < len(s): in place. -/
theorem ins_shift (L : InsOk P ρ f es by_ z) (b n c i vb voff m vc : Nat) (cs vs : List Value) (w : World) (hi : i < n) (hm : 0 < m) (hroom : n + m ≤ c) (h63 : n + m ≤ 9223372036854775807) (hvb : vb ≠ b)
    (hcl : cs.length = n * es) (hvl : vs.length = m * es)
    (hcs : ∀ j v, cs[j]? = some v → w.cell? ⟨b, j, none⟩ = some v) (hsp : ∀ j, j < (n + m) * es → (w.cell? ⟨b, j, none⟩).isSome = true) (hfz : ∀ j, j < (n + m) * es → w.frozen? ⟨b, j, none⟩ = false)
    (hvs : ∀ j v, vs[j]? = some v → w.cell? ⟨vb, voff + j, none⟩ = some v) (h1c : ∀ v ∈ cs, v.oneCell' = true) (h1v : ∀ v ∈ vs, v.oneCell' = true)
    (tA tB : TypeId) (kA kB : Nat) (hsa : w.shape? vb = some (tA, kA)) (hsb : w.shape? b = some (tB, kB)) (hkB : kB ≠ 0) (hfa : w.frozen? ⟨vb, voff, none⟩ = false) (hfe : w.frozen? ⟨vb, kA, none⟩ = false) :
    Calls P f #[.slice (some ⟨b, 0, none⟩) n c, .int .i64 i, .slice (some ⟨vb, voff, none⟩) m vc] w fun e w' =>
      e = .returned (.slice (some ⟨b, 0, none⟩) (n + m) c) ∧ w' = (w.drew.setCells b ((i + m) * es) (cs.drop (i * es))).setCells b (i * es) vs := by
  have t3 := L.t3; have a3 := L.a3; have z3 := L.z3; have t4 := L.t4; have a4 := L.a4; have z4 := L.z4; have z9 := L.z9; have t24 := L.t24; have a24 := L.a24; have z24 := L.z24
  have u3 := run_underlying L.t3; have u4 := run_underlying L.t4; have u24 := run_underlying L.t24
  have hz1 : ¬ ((m : Int) = 0) := by omega
  have hz2 : ¬ ((i : Int) = (n : Int)) := by omega
  have hsz : (P.info? (ρ.t 9)).map (·.size) = some es := by
    obtain ⟨i0, hi0, h0, h1, h2⟩ := info_parts L.i9
    rw [hi0]; simp [h1]
  have hov : ∀ lb cb, (callFunc (ρ.f 29) #[.slice (some ⟨vb, voff, none⟩) m vc, .slice (some ⟨b, (i + m) * es, none⟩) lb cb]).run P w = .ok (.value (.bool false)) w := fun lb cb => by
    rw [L.ov, Lib.run_overlaps_apart w (ρ.t 24) (ρ.t 4) (ρ.t 9) L.t24 es L.z9 ⟨vb, voff, none⟩ ⟨b, (i + m) * es, none⟩ m vc lb cb hvb tA tB kA kB hsa hsb hkB hfa hfe]
    rfl
  have hie : i * es ≤ n * es := Nat.mul_le_mul_right _ (by omega)
  have him : (i + m) * es = i * es + m * es := Nat.add_mul _ _ _
  have hnm : (n + m) * es = n * es + m * es := Nat.add_mul _ _ _
  have hni : (n - i) * es = n * es - i * es := Nat.sub_mul _ _ _
  have hdl : (cs.drop (i * es)).length = (n - i) * es := by rw [List.length_drop, hcl, hni]
  have mixed := L.mixed
  have hw1 : IntKind.i64.wrap ((i : Int) + (m : Int)) = (i : Int) + (m : Int) := by rw [IntKind.wrap_i64]; omega
  have hb1 : (0 : Int) ≤ (i : Int) + (m : Int) := by omega
  have hin : i ≤ n := by omega
  have htn : ((i : Int) + (m : Int)).toNat = i + m := by omega
  have hb2 : ¬ (c = i + m) := by omega
  have hb3 : (i : Int) ≤ (n : Int) + (m : Int) := by omega
  have hb4 : ¬ (c = i) := by omega
  have hz3 : ¬ ((c : Int) < (n : Int) + (m : Int)) := by omega
  have hw2 : IntKind.i64.wrap ((n : Int) + (m : Int)) = (n : Int) + (m : Int) := by rw [IntKind.wrap_i64]; omega
  have hcp1 : ∀ ty dc sc, (Builtin.copy_ #[(ρ.t 24), (ρ.t 24)] ty #[.slice (some ⟨b, (i + m) * es, none⟩) (n + m - (i + m)) dc, .slice (some ⟨b, i * es, none⟩) (n + m - i) sc]).run P w.drew = .ok (goInt ((n - i : Nat) : Int)) (w.drew.setCells b ((i + m) * es) (cs.drop (i * es))) := fun ty dc sc =>
    run_copy_k w.drew _ _ ty (ρ.t 9) es b ((i + m) * es) (n + m - (i + m)) dc ⟨b, i * es, none⟩ (n + m - i) sc (n - i) (cs.drop (i * es)) L.t24 hsz (by simp only [Nat.min_def]; split <;> omega) hdl
      (fun j v hj => by rw [Addr.add_lit]; exact hcs (i * es + j) v (by rwa [List.getElem?_drop] at hj))
      (fun j hj => by exact hsp _ (by omega)) (fun j hj => by exact hfz _ (by omega)) (fun v hv => h1c v (List.mem_of_mem_drop hv))
  obtain ⟨W1, hW1⟩ : ∃ W1, W1 = w.drew.setCells b ((i + m) * es) (cs.drop (i * es)) := ⟨_, rfl⟩
  have hsp1 : ∀ k, k < (n + m) * es → (W1.cell? ⟨b, k, none⟩).isSome = true := fun k hk => by
    rw [hW1]
    exact isSome_setCells b _ _ _ (fun j hj => by exact hsp _ (by omega)) _ (hsp k hk)
  have hcp2 : ∀ (W : World), (∀ x, W.cell? x = W1.cell? x) → (∀ x, W.frozen? x = W1.frozen? x) → ∀ ty dc, (Builtin.copy_ #[(ρ.t 24), (ρ.t 24)] ty #[.slice (some ⟨b, i * es, none⟩) (n + m - i) dc, .slice (some ⟨vb, voff, none⟩) m vc]).run P W = .ok (goInt (m : Int)) (W.setCells b (i * es) vs) := fun W hWc hWf ty dc =>
    run_copy_k W _ _ ty (ρ.t 9) es b (i * es) (n + m - i) dc ⟨vb, voff, none⟩ m vc m vs L.t24 hsz (by simp only [Nat.min_def]; split <;> omega) hvl
      (fun j v hj => by
        rw [Addr.add_lit, hWc, hW1, World.cell?_setCells_out b _ _ _ _ (fun h _ => absurd h hvb)]
        exact hvs j v hj)
      (fun j hj => by rw [hWc]; exact hsp1 _ (by omega)) (fun j hj => by rw [hWf, hW1, World.frozen?_setCells]; exact hfz _ (by omega)) h1v
  rw [← hW1] at hcp1
  obtain ⟨nm, og, ta, nr, ou, hF⟩ := L.fn
  clear hie him hnm hni hdl hcl hvl
  go_enter hF, Body2.n22_ntmps ρ
  go_wp2_with (simp only [hov])
  go_region_law_o (refine step_copy_runI rfl _ _ (ρ.t 24) (ρ.t 24) rfl _ _ (by simp [Act.eval, Act.put]) (by simp [Act.eval, Act.put]) (hcp1 _ _ _) ?_)
  go_wp2_with (at_builtin; refine wpList_copy_runI _ rfl _ _ (ρ.t 24) (ρ.t 24) rfl _ _ rfl rfl (hcp2 _ (fun _ => rfl) (fun _ => rfl) _ _) ?_)
  go_ret
  first | exact ⟨rfl, rfl⟩ | exact ⟨rfl, by rw [hW1]⟩

set_option maxHeartbeats 4000000 in
set_option maxRecDepth 100000 in
/-- At the end: it is an append. -/
theorem ins_end (L : InsOk P ρ f es by_ z) (base : Option Addr) (n c m vc : Nat) (vb voff : Nat) (v' : Value) (w w' : World) (hm : 0 < m) (hbase : base = none → n = 0) (hnc : n ≤ c)
    (hrun : (Builtin.append_ #[(ρ.t 24), (ρ.t 24)] (ρ.t 24) #[.slice base n c, .slice (some ⟨vb, voff, none⟩) m vc]).run P w = .ok v' w') :
    Calls P f #[.slice base n c, .int .i64 n, .slice (some ⟨vb, voff, none⟩) m vc] w fun e w2 => e = .returned v' ∧ w2 = w' := by
  have t3 := L.t3; have a3 := L.a3; have z3 := L.z3; have t4 := L.t4; have a4 := L.a4; have z4 := L.z4; have z9 := L.z9; have t24 := L.t24; have a24 := L.a24; have z24 := L.z24
  have u3 := run_underlying L.t3; have u4 := run_underlying L.t4; have u24 := run_underlying L.t24
  have mixed := L.mixed
  have hz1 : ¬ ((m : Int) = 0) := by omega
  obtain ⟨nm, og, ta, nr, ou, hF⟩ := L.fn
  go_enter hF, Body2.n22_ntmps ρ
  cases base with
  | none =>
    have h0 := hbase rfl
    subst h0
    go_wp2_with (at_builtin; refine Lib.wpList_append_run _ rfl _ _ _ _ rfl _ _ rfl rfl _ _ hrun ?_)
    all_goals (go_ret; exact ⟨rfl, rfl⟩)
  | some a =>
    obtain ⟨ab, ao, asp⟩ := a
    go_wp2_with (at_builtin; refine Lib.wpList_append_run _ rfl _ _ _ _ rfl _ _ rfl rfl _ _ hrun ?_)
    all_goals (go_ret; exact ⟨rfl, rfl⟩)

theorem zc_size {xs : Array Value} {n : Nat} (h : xs.size = es) : (Builtin.zeroCells xs n).size = n * es := by
  simp [Builtin.zeroCells, h]

set_option maxHeartbeats 4000000 in
set_option maxRecDepth 100000 in
/-- i < len(s), no room: a new row. -/
theorem ins_grow (L : InsOk P ρ f es by_ z) (b n c i vb voff m vc : Nat) (cs vs : List Value) (w : World) (hi : i < n) (hm : 0 < m) (hnc : n ≤ c) (hroom : c < n + m) (hb0 : 0 < by_) (hbig : (n + m) * by_ ≤ 140737488355328)
    (hcl : cs.length = n * es) (hvl : vs.length = m * es)
    (hcs : ∀ j v, cs[j]? = some v → w.cell? ⟨b, j, none⟩ = some v)
    (hvs : ∀ j v, vs[j]? = some v → w.cell? ⟨vb, voff + j, none⟩ = some v) (h1c : ∀ v ∈ cs, v.oneCell' = true) (h1v : ∀ v ∈ vs, v.oneCell' = true) :
    Calls P f #[.slice (some ⟨b, 0, none⟩) n c, .int .i64 i, .slice (some ⟨vb, voff, none⟩) m vc] w fun e w' =>
      e = .returned (.slice (some ⟨w.heap.size, 0, none⟩) (n + m) (grownCap w (n + m) c (ρ.t 9))) ∧
      w' = (((w.alloc (.cells ((cs.take (i * es)).toArray ++ Builtin.zeroCells z.cells (n + m - i) ++ Builtin.zeroCells z.cells (grownCap w (n + m) c (ρ.t 9) - (n + m))) (ρ.t 9))).drew.setCells w.heap.size (i * es) vs).drew).setCells w.heap.size ((i + m) * es) (cs.drop (i * es)) := by
  have t3 := L.t3; have a3 := L.a3; have z3 := L.z3; have t4 := L.t4; have a4 := L.a4; have z4 := L.z4; have z9 := L.z9; have t24 := L.t24; have a24 := L.a24; have z24 := L.z24
  have u3 := run_underlying L.t3; have u4 := run_underlying L.t4; have u24 := run_underlying L.t24
  have mixed := L.mixed
  obtain ⟨i0, hi0, hz0, hzs, hzb⟩ := info_parts L.i9
  have hes0 := L.es0
  have hz1 : ¬ ((m : Int) = 0) := by omega
  have hz2 : ¬ ((i : Int) = (n : Int)) := by omega
  have hz3 : (c : Int) < (n : Int) + (m : Int) := by omega
  have hsz : (P.info? (ρ.t 9)).map (·.size) = some es := by rw [hi0]; simp [hzs]
  have hie : i * es ≤ n * es := Nat.mul_le_mul_right _ (by omega)
  have him : (i + m) * es = i * es + m * es := Nat.add_mul _ _ _
  have hnm : (n + m) * es = n * es + m * es := Nat.add_mul _ _ _
  have hni : (n - i) * es = n * es - i * es := Nat.sub_mul _ _ _
  have hn1 : 1 * es ≤ n * es := Nat.mul_le_mul_right _ (by omega)
  have hm1 : 1 * es ≤ m * es := Nat.mul_le_mul_right _ (by omega)
  have hnmi : (n + m - i) * es = (n + m) * es - i * es := Nat.sub_mul _ _ _
  have hnb : n + m ≤ (n + m) * by_ := Nat.le_mul_of_pos_right _ hb0
  have hbw : b < w.heap.size := block_lt_of_cell (hcs 0 _ (List.getElem?_eq_getElem (by omega)))
  have hvw : vb < w.heap.size := block_lt_of_cell (hvs 0 _ (List.getElem?_eq_getElem (by omega)))
  have hkk : (n : Int) + (m : Int) - (i : Int) = ((n + m - i : Nat) : Int) := by omega
  have hik : i + (n + m - i) = n + m := by omega
  have hold : (Builtin.firstCells i0.size i (.slice (some ⟨b, 0, none⟩) i c)).run P w.drew = .ok (cs.take (i * es)).toArray w.drew := by
    rw [hzs]
    exact run_firstCells_some w.drew es i ⟨b, 0, none⟩ i c (cs.take (i * es)) (by rw [List.length_take]; omega) (fun j v hj => by
      rw [Addr.add_lit]
      rw [List.getElem?_take] at hj
      split at hj
      · rw [Nat.zero_add]; exact hcs j v hj
      · cases hj)
  have hrz : ∀ ty, (Builtin.append_ #[(ρ.t 24), (ρ.t 3)] ty #[.slice (some ⟨b, 0, none⟩) i c, .int .i64 ((n : Int) + (m : Int) - (i : Int))]).run P w =
      .ok (.slice (some ⟨w.heap.size, 0, none⟩) (n + m) (grownCap w (n + m) c (ρ.t 9))) (w.drew.alloc (.cells ((cs.take (i * es)).toArray ++ Builtin.zeroCells z.cells (n + m - i) ++ Builtin.zeroCells z.cells (grownCap w (n + m) c (ρ.t 9) - (n + m))) (ρ.t 9))) := fun ty => by
    have h := Lib.run_append_grow_zeros w (ρ.t 24) (ρ.t 3) ty (ρ.t 9) i0 _ .i64 .i64 L.t24 L.t3 hi0 hz0 (some ⟨b, 0, none⟩) i c (cs.take (i * es)) hold (n + m - i) (by omega) (by omega) (by omega) (by omega) (by rw [hzb]; exact Nat.le_trans (Nat.mul_le_mul_right _ (show n + m - i ≤ n + m by omega)) (by omega)) (by rw [hzb, hik]; exact growslice_fits hroom hbig)
    rw [hik] at h
    rw [hkk]
    exact h
  obtain ⟨G, hG⟩ : ∃ G, G = grownCap w (n + m) c (ρ.t 9) := ⟨_, rfl⟩
  obtain ⟨ROW, hROW⟩ : ∃ ROW : Array Value, ROW = (cs.take (i * es)).toArray ++ Builtin.zeroCells z.cells (n + m - i) ++ Builtin.zeroCells z.cells (G - (n + m)) := ⟨_, rfl⟩
  rw [← hG] at hrz ⊢
  rw [← hROW] at hrz ⊢
  have hRl : (n + m) * es ≤ ROW.size := by
    rw [hROW, Array.size_append, Array.size_append, zc_size L.zc, zc_size L.zc]
    simp
    omega
  obtain ⟨W1, hW1⟩ : ∃ W1, W1 = w.drew.alloc (.cells ROW (ρ.t 9)) := ⟨_, rfl⟩
  rw [← hW1] at hrz
  have hN : ∀ j, j < (n + m) * es → (W1.cell? ⟨w.heap.size, j, none⟩).isSome = true := fun j hj => by
    rw [hW1, World.cell?_alloc_at (w := w.drew) ROW _ w.heap.size j rfl, Array.getElem?_eq_getElem (by omega)]; rfl
  have hNf : ∀ j, W1.frozen? ⟨w.heap.size, j, none⟩ = false := fun j => by rw [hW1]; exact World.frozen?_alloc_at (w := w.drew) ROW _ w.heap.size j rfl
  have hOb : ∀ j v, w.cell? ⟨b, j, none⟩ = some v → W1.cell? ⟨b, j, none⟩ = some v := fun j v h => by rw [hW1, World.cell?_alloc_past (w := w.drew) _ b j hbw]; exact h
  have hOv : ∀ j v, w.cell? ⟨vb, j, none⟩ = some v → W1.cell? ⟨vb, j, none⟩ = some v := fun j v h => by rw [hW1, World.cell?_alloc_past (w := w.drew) _ vb j hvw]; exact h
  have hcpA : ∀ (W : World), (∀ x, W.cell? x = W1.cell? x) → (∀ x, W.frozen? x = W1.frozen? x) → ∀ ty dc, (Builtin.copy_ #[(ρ.t 24), (ρ.t 24)] ty #[.slice (some ⟨w.heap.size, i * es, none⟩) (n + m - i) dc, .slice (some ⟨vb, voff, none⟩) m vc]).run P W = .ok (goInt (m : Int)) (W.setCells w.heap.size (i * es) vs) := fun W hWc hWf ty dc =>
    run_copy_k W _ _ ty (ρ.t 9) es w.heap.size (i * es) (n + m - i) dc ⟨vb, voff, none⟩ m vc m vs L.t24 hsz (by simp only [Nat.min_def]; split <;> omega) hvl
      (fun j v hj => by rw [Addr.add_lit, hWc]; exact hOv _ v (hvs j v hj))
      (fun j hj => by rw [hWc]; exact hN _ (by omega)) (fun j hj => by rw [hWf]; exact hNf _) h1v
  have hGn : n + m ≤ G := by rw [hG]; exact grownCap_ge w _ _ _
  have hG63 : G ≤ 9223372036854775807 := by
    have := grownCap_le_maxLen w (n + m) c (ρ.t 9) (by unfold maxLen; omega)
    rw [← hG] at this
    unfold maxLen at this
    omega
  have hGi : ¬ (G = i) := by omega
  have hGim : ¬ (G = i + m) := by omega
  have hci : ¬ (c = i) := by omega
  have hbN : b ≠ w.heap.size := by omega
  have hdl : (cs.drop (i * es)).length = (n - i) * es := by rw [List.length_drop, hcl, hni]
  have hcpB : ∀ (W : World), (∀ x, W.cell? x = (W1.setCells w.heap.size (i * es) vs).cell? x) → (∀ x, W.frozen? x = (W1.setCells w.heap.size (i * es) vs).frozen? x) → ∀ ty dc sc, (Builtin.copy_ #[(ρ.t 24), (ρ.t 24)] ty #[.slice (some ⟨w.heap.size, (i + m) * es, none⟩) (n + m - (i + m)) dc, .slice (some ⟨b, i * es, none⟩) (n - i) sc]).run P W = .ok (goInt ((n - i : Nat) : Int)) (W.setCells w.heap.size ((i + m) * es) (cs.drop (i * es))) := fun W hWc hWf ty dc sc =>
    run_copy_k W _ _ ty (ρ.t 9) es w.heap.size ((i + m) * es) (n + m - (i + m)) dc ⟨b, i * es, none⟩ (n - i) sc (n - i) (cs.drop (i * es)) L.t24 hsz (by simp only [Nat.min_def]; split <;> omega) hdl
      (fun j v hj => by
        rw [Addr.add_lit, hWc, World.cell?_setCells_out _ _ _ _ _ (fun h _ => absurd h hbN)]
        exact hOb _ v (hcs (i * es + j) v (by rwa [List.getElem?_drop] at hj)))
      (fun j hj => by rw [hWc]; exact isSome_setCells _ _ _ _ (fun t ht => hN _ (by omega)) _ (hN _ (by omega)))
      (fun j hj => by rw [hWf, World.frozen?_setCells]; exact hNf _) (fun v hv => h1c v (List.mem_of_mem_drop hv))
  subst hW1
  have hE1 : ∀ x, ((w.alloc (.cells ROW (ρ.t 9))).drew).cell? x = (w.drew.alloc (.cells ROW (ρ.t 9))).cell? x := fun x => rfl
  have hE2 : ∀ x, ((w.alloc (.cells ROW (ρ.t 9))).drew).frozen? x = (w.drew.alloc (.cells ROW (ρ.t 9))).frozen? x := fun x => rfl
  have hF1 : ∀ x, (((w.alloc (.cells ROW (ρ.t 9))).drew.setCells w.heap.size (i * es) vs).drew).cell? x = ((w.drew.alloc (.cells ROW (ρ.t 9))).setCells w.heap.size (i * es) vs).cell? x := fun x => rfl
  have hF2 : ∀ x, (((w.alloc (.cells ROW (ρ.t 9))).drew.setCells w.heap.size (i * es) vs).drew).frozen? x = ((w.drew.alloc (.cells ROW (ρ.t 9))).setCells w.heap.size (i * es) vs).frozen? x := fun x => rfl
  have hw1 : IntKind.i64.wrap ((i : Int) + (m : Int)) = (i : Int) + (m : Int) := by rw [IntKind.wrap_i64]; omega
  have hb1 : (0 : Int) ≤ (i : Int) + (m : Int) := by omega
  have hin : i ≤ n := by omega
  have htn : ((i : Int) + (m : Int)).toNat = i + m := by omega
  have hb3 : (i : Int) ≤ (n : Int) := by omega
  clear hkk hik hold hROW hG hRl hie him hnm hni hn1 hm1 hnmi hdl hcl hvl
  obtain ⟨nm, og, ta, nr, ou, hF⟩ := L.fn
  go_enter hF, Body2.n22_ntmps ρ
  go_wp2_with (first
    | (at_builtin; refine Lib.wpList_append_run _ rfl _ _ _ _ rfl _ _ rfl rfl _ _ (hrz _) ?_)
    | (at_builtin; refine wpList_copy_runI _ rfl _ _ (ρ.t 24) (ρ.t 24) rfl _ _ rfl rfl (hcpA _ hE1 hE2 _ _) ?_)
    | (at_builtin; refine wpList_copy_runI _ rfl _ _ (ρ.t 24) (ρ.t 24) rfl _ _ rfl rfl (hcpB _ (fun _ => rfl) (fun _ => rfl) _ _ _) ?_))
  go_region_law_o (refine step_copy_runI rfl _ _ (ρ.t 24) (ρ.t 24) rfl (.slice (some ⟨w.heap.size, (i + m) * es, none⟩) (n + m - (i + m)) (G - (i + m))) (.slice (some ⟨b, i * es, none⟩) (n - i) (c - i)) (by simp [Act.eval, Act.put]) (by simp [Act.eval, Act.put]) (hcpB _ hF1 hF2 (ρ.t 3) (G - (i + m)) (c - i)) ?_)
  go_wp2
  go_ret
  exact ⟨rfl, rfl⟩

/-- What a program must bear, that 'slices.Delete' is walked. -/
structure DelOk (P : Program) (ρ : Ren) (f es : Nat) (z : Value) : Prop where
  mixed : P.follows .mixedOrders = true
  fn : ∃ nm og ta nr ou, P.funcs[f]? = some { Body2.n24 ρ with name := nm, origin := og, targs := ta, norace := nr, ours := ou }
  t0 : P.underlying (ρ.t 0) = some (TypeDesc.tuple #[])
  t3 : P.underlying (ρ.t 3) = some (TypeDesc.int IntKind.i64)
  t4 : P.underlying (ρ.t 4) = some TypeDesc.bool
  t24 : P.underlying (ρ.t 24) = some (TypeDesc.slice (ρ.t 9))
  i9 : (P.info? (ρ.t 9)).map (fun i => i.size) = some es
  zc : z.cells.size = es
  zo : (z.cells.toList.all fun v => v.oneCell') = true
  es0 : 0 < es
  a3 : ∀ w, (isAgg (ρ.t 3)).run P w = .ok false w
  a4 : ∀ w, (isAgg (ρ.t 4)).run P w = .ok false w
  a24 : ∀ w, (isAgg (ρ.t 24)).run P w = .ok false w
  z3 : ∀ w, (Go.sizeOf (ρ.t 3)).run P w = .ok 1 w
  z4 : ∀ w, (Go.sizeOf (ρ.t 4)).run P w = .ok 1 w
  z9 : ∀ w, (Go.sizeOf (ρ.t 9)).run P w = .ok es w
  z24 : ∀ w, (Go.sizeOf (ρ.t 24)).run P w = .ok 1 w
  v9 : ∀ w, (zeroValue (ρ.t 9)).run P w = .ok z w

theorem run_clear_k (w : World) (t e ty : TypeId) (z : Value) (ht : P.underlying t = some (.slice e)) (hv : ∀ w, (zeroValue e).run P w = .ok z w) (h1 : ∀ v ∈ z.cells, v.oneCell' = true) (es b o n c : Nat) (hz : z.cells.size = es) (hn : 0 < n) (he : 0 < es)
    (hc : ∀ j, j < n * es → (w.cell? ⟨b, o + j, none⟩).isSome = true) (hf : ∀ j, j < n * es → w.frozen? ⟨b, o + j, none⟩ = false) :
    (Builtin.clear_ #[t] ty #[.slice (some ⟨b, o, none⟩) n c]).run P w = .ok (.tuple #[]) (w.setCells b o (Builtin.zeroCells z.cells n).toList) := by
  have hsz : (Builtin.zeroCells z.cells n).toList.length = n * es := by rw [Array.length_toList, zc_size hz]
  have hst := run_storeCells_cells (P := P) b o (Builtin.zeroCells z.cells n).toList 0 w (by rw [hsz]; simpa using hc) (by rw [hsz]; simpa using hf) (by
    intro v hv'
    obtain ⟨j, hj⟩ := List.getElem?_of_mem hv'
    rw [Array.getElem?_toList] at hj
    simp only [Builtin.zeroCells] at hj
    obtain ⟨hj1, hj2⟩ := Array.getElem?_eq_some_iff.1 hj
    simp only [Array.getElem_map, Array.getElem_range] at hj2
    have hlt : j % z.cells.size < z.cells.size := Nat.mod_lt _ (by omega)
    have hgd : v = z.cells[j % z.cells.size] := by
      rw [← hj2]
      simp [getElem!_pos, hlt]
    rw [hgd]
    exact h1 _ (Array.getElem_mem hlt))
  simp only [Nat.add_zero] at hst
  obtain ⟨m, rfl⟩ : ∃ m, n = m + 1 := ⟨n - 1, by omega⟩
  simp [Builtin.clear_, run_underlying ht, hv, hst]

set_option maxHeartbeats 4000000 in
set_option maxRecDepth 1000000 in
theorem del_walk (L : DelOk P ρ f es z) (b n c i j : Nat) (cs : List Value) (w : World) (hij : i < j) (hj : j ≤ n) (hnc : n ≤ c)
    (hcl : cs.length = n * es) (hcs : ∀ k v, cs[k]? = some v → w.cell? ⟨b, k, none⟩ = some v) (hfz : ∀ k, k < n * es → w.frozen? ⟨b, k, none⟩ = false) (h1c : ∀ v ∈ cs, v.oneCell' = true) :
    Calls P f #[.slice (some ⟨b, 0, none⟩) n c, .int .i64 i, .int .i64 j] w fun e w' =>
      e = .returned (.slice (some ⟨b, 0, none⟩) (i + (n - j)) c) ∧ w' = (w.drew.setCells b (i * es) (cs.drop (j * es))).setCells b ((i + (n - j)) * es) (Builtin.zeroCells z.cells (n - (i + (n - j)))).toList := by
  have t0 := L.t0; have t3 := L.t3; have a3 := L.a3; have z3 := L.z3; have t4 := L.t4; have a4 := L.a4; have z4 := L.z4; have z9 := L.z9; have t24 := L.t24; have a24 := L.a24; have z24 := L.z24
  have u3 := run_underlying L.t3; have u4 := run_underlying L.t4; have u24 := run_underlying L.t24
  have mixed := L.mixed
  have hes0 := L.es0
  obtain ⟨i0, hi0, hz1⟩ : ∃ i0, P.info? (ρ.t 9) = some i0 ∧ i0.size = es := by
    have := L.i9
    cases hq : P.info? (ρ.t 9) with
    | none => rw [hq] at this; cases this
    | some i0 => rw [hq] at this; exact ⟨i0, rfl, by simpa using this⟩
  have hie : i * es ≤ j * es := Nat.mul_le_mul_right _ (by omega)
  have hje : j * es ≤ n * es := Nat.mul_le_mul_right _ hj
  have hnj : (n - j) * es = n * es - j * es := Nat.sub_mul _ _ _
  have hinj : (i + (n - j)) * es = i * es + (n - j) * es := Nat.add_mul _ _ _
  have hrest : (n - (i + (n - j))) * es = n * es - (i + (n - j)) * es := Nat.sub_mul _ _ _
  obtain ⟨news, hnews⟩ : ∃ news, news = cs.drop (j * es) := ⟨_, rfl⟩
  have hlen : news.length = (n - j) * es := by rw [hnews, List.length_drop, hcl, hnj]
  have hget : ∀ t u, news[t]? = some u → w.cell? ⟨b, j * es + t, none⟩ = some u := by
    intro t u hu
    rw [hnews, List.getElem?_drop] at hu
    exact hcs _ _ hu
  obtain ⟨A, hA, hsrc⟩ : ∃ A : Addr, (if c = j then some (⟨b, 0, none⟩ : Addr) else some ⟨b, j * es, none⟩) = some A ∧ Hid (∀ t u, news[t]? = some u → w.drew.cell? (A.add t) = some u) := by
    by_cases h : c = j
    · refine ⟨⟨b, 0, none⟩, by simp [h], fun t u hu => ?_⟩
      have h0 : news.length = 0 := by
        have : n = j := by omega
        rw [hlen, this]; simp
      rw [List.length_eq_zero_iff.1 h0] at hu
      simp at hu
    · refine ⟨⟨b, j * es, none⟩, by simp [h], fun t u hu => ?_⟩
      rw [Addr.add_lit]
      exact hget t u hu
  have s1 : Hid (news.length = (n - j) * es) := hlen
  have s2 : Hid (∀ u ∈ news, u.oneCell' = true) := fun u hu => h1c u (by rw [hnews] at hu; exact List.mem_of_mem_drop hu)
  have hsome : ∀ t, t < n * es → (w.cell? ⟨b, t, none⟩).isSome = true := fun t ht => by
    rw [hcs t _ (List.getElem?_eq_getElem (by omega))]; rfl
  have s3 : Hid (∀ t, t < news.length → (w.drew.cell? ⟨b, 0 + i * es + t, none⟩).isSome = true ∧ w.drew.frozen? ⟨b, 0 + i * es + t, none⟩ = false) := by
    intro t ht
    rw [hlen] at ht
    rw [Nat.zero_add]
    exact ⟨hsome _ (by omega), hfz _ (by omega)⟩
  obtain ⟨W1, hW1⟩ : ∃ W1, W1 = w.drew.setCells b (0 + i * es) news := ⟨_, rfl⟩
  have hsp1 : ∀ k, k < n * es → (W1.cell? ⟨b, k, none⟩).isSome = true := fun k hk => by
    rw [hW1]
    exact isSome_setCells b _ _ _ (fun t ht => (s3.out t ht).1) _ (hsome k hk)
  have hcl0 : ∀ ty, (Builtin.clear_ #[ρ.t 24] ty #[.slice (some ⟨b, (i + (n - j)) * es, none⟩) (n - (i + (n - j))) (c - (i + (n - j)))]).run P W1 = .ok (.tuple #[]) (W1.setCells b ((i + (n - j)) * es) (Builtin.zeroCells z.cells (n - (i + (n - j)))).toList) :=
    fun ty => run_clear_k W1 _ _ ty _ t24 L.v9 (fun v hv => List.all_eq_true.1 L.zo v (Array.mem_toList_iff.2 hv)) es b ((i + (n - j)) * es) _ _ L.zc (by omega) hes0 (fun t ht => hsp1 _ (by omega)) (fun t ht => by rw [hW1, World.frozen?_setCells]; exact hfz _ (by omega))
  have X : Aside (W1 = w.drew.setCells b (i * es) (cs.drop (j * es))) := by rw [hW1, hnews, Nat.zero_add]; exact rfl
  have hW : Hid (W1 = w.drew.setCells b (0 + i * es) news) := hW1
  have hic : i ≤ c := by omega
  have hjc : j ≤ c := by omega
  have hne : ¬ ((i : Int) = (j : Int)) := by omega
  have hijn : i ≤ j := by omega
  obtain ⟨nm, og, ta, nr, ou, hF⟩ := L.fn
  generalize (Builtin.zeroCells z.cells (n - (i + (n - j)))).toList = Z at hcl0 ⊢
  clear hW1 hget hnews hlen hfz hcs h1c hcl hie hje hnj hinj hrest hsome hsp1 L
  go_enter hF, Body2.n24_ntmps ρ
  go_wp2_with fail
  go_region_law_o (refine step_append_room rfl (.tmp 22) (.tmp 25) (ρ.t 24) rfl (ρ.t 9) i0 es t24 hi0 hz1 b 0 i c (by simp [Act.eval, Act.put]) A (n - j) (c - j) news (by simp [Act.eval, Act.put]) s1.out hsrc.out s2.out (by omega) s3.out ?_; rw [← hW.out])
  go_wp2
  go_ret
  exact ⟨rfl, by rw [← X.out]⟩
end
end Go.Proofs.YtcpgkdaicglogaaGreatDoorPv
