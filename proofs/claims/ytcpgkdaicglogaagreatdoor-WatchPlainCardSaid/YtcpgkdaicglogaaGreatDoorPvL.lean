/-
What is handed over: a value that is read off memory by its type stands for what is told of it.
-/
import Derived.Test.YtcpgkdaicglogaaGreatDoorPvW
import Derived.Test.YtcpgkdaicglogaaGreatDoorPvY
import Derived.ChangeArms
import Derived.WideShapes
import Derived.SizedLaws
namespace Go.Proofs.YtcpgkdaicglogaaGreatDoorPv
open Go Go.RowKit

section
variable {P : Program}

def mkPV (a : Bool) (ps : List PV) : PV := if a then .agg ps else ps.headD .jk

def isAgg (P : Program) (t : TypeId) : Bool := match P.underlying t with
  | some (.struct _) => true
  | _ => false

/-- What the cells of a value of a type are told as. -/
inductive Is (P : Program) : TypeId → List PV → Prop
  | bool (t : TypeId) (b : Bool) : P.underlying t = some .bool → Is P t [.sc (.bool b)]
  | int (t : TypeId) (k : IntKind) (n : Int) : P.underlying t = some (.int k) → (Lit.int k n).wf = true → Is P t [.sc (.int k n)]
  | str (t : TypeId) (s : ByteArray) : P.underlying t = some .string → s.size ≤ reachBytes → Is P t [.sc (.string s)]
  | sl (t e : TypeId) (yss : List (List PV)) : P.underlying t = some (.slice e) → yss.length * P.bytesOf e ≤ reachBytes → (∀ ys, ys ∈ yss → Is P e ys) → Is P t [.sl (yss.map (mkPV (isAgg P e)))]
  | st (t : TypeId) (fs : Array Field) (ps : List PV) : P.underlying t = some (.struct fs) → ps.length = P.cellsOf t →
      (∀ (i : Nat) f, fs[i]? = some f → Is P f.type ((ps.drop f.offset).take (P.cellsOf f.type))) → Is P t ps

/-- Fields that stand one behind the other: where they end. -/
def tile (P : Program) : Nat → List Field → Option Nat
  | k, [] => some k
  | k, f :: r => if f.offset = k then tile P (k + P.cellsOf f.type) r else none

/-- Types that are read here: numbers, bools, strings, slices and structs of them, whose cells are all a field's. -/
def okT (P : Program) : Nat → TypeId → Bool
  | 0, _ => false
  | n + 1, t => match P.underlying t with
    | some .bool | some (.int _) | some .string => P.cellsOf t == 1
    | some (.slice e) => P.cellsOf t == 1 && decide (0 < P.cellsOf e) && okT P n e
    | some (.struct fs) => fs.toList.all (fun f => okT P n f.type) && tile P 0 fs.toList == some (P.cellsOf t)
    | _ => false

theorem Is.bool' {t : TypeId} {ps : List PV} (h : Is P t ps) (ht : P.underlying t = some .bool) : ∃ b, ps = [.sc (.bool b)] := by
  cases h <;> simp_all
theorem Is.int' {t : TypeId} {ps : List PV} {k : IntKind} (h : Is P t ps) (ht : P.underlying t = some (.int k)) : ∃ n, ps = [.sc (.int k n)] ∧ (Lit.int k n).wf = true := by
  cases h <;> simp_all
theorem Is.str' {t : TypeId} {ps : List PV} (h : Is P t ps) (ht : P.underlying t = some .string) : ∃ s : ByteArray, ps = [.sc (.string s)] ∧ s.size ≤ reachBytes := by
  cases h <;> simp_all
theorem Is.sl' {t e : TypeId} {ps : List PV} (h : Is P t ps) (ht : P.underlying t = some (.slice e)) : ∃ yss : List (List PV), ps = [.sl (yss.map (mkPV (isAgg P e)))] ∧ yss.length * P.bytesOf e ≤ reachBytes ∧ ∀ ys, ys ∈ yss → Is P e ys := by
  cases h with
  | sl t e' yss h1 h2 h3 =>
    rw [ht] at h1
    simp only [Option.some.injEq, TypeDesc.slice.injEq] at h1
    subst h1
    exact ⟨yss, rfl, h2, h3⟩
  | _ => simp_all
theorem Is.st' {t : TypeId} {fs : Array Field} {ps : List PV} (h : Is P t ps) (ht : P.underlying t = some (.struct fs)) : ps.length = P.cellsOf t ∧ ∀ (i : Nat) f, fs[i]? = some f → Is P f.type ((ps.drop f.offset).take (P.cellsOf f.type)) := by
  cases h with
  | st t fs' ps h1 h2 h3 =>
    rw [ht] at h1
    simp only [Option.some.injEq, TypeDesc.struct.injEq] at h1
    subst h1
    exact ⟨h2, h3⟩
  | _ => simp_all

theorem Is.mk_cells {t : TypeId} {ps : List PV} (h : Is P t ps) : cellsOf (mkPV (isAgg P t) ps) = ps := by
  cases h <;> simp_all [isAgg, mkPV, cellsOf]

section
variable {km : Km} {w : World} {S : Addr → Prop} {K : Nat → Nat → Option Nat} {H : Type} {enc : TypeId × Value → H} {spare : Nat → Bool} {held : Bool}

theorem cells_get {base : Nat} {a : Addr} {n : Nat} {cs : List Value} (h : w.cells? base a n = some cs) : cs.length = n ∧ ∀ j, j < n → w.cell? (a.add j) = cs[j]? := by
  unfold World.cells? at h
  split at h
  · refine ⟨by simpa using mapM_some_length h, fun j hj => ?_⟩
    have := mapM_some_get h j j (by simp [hj])
    exact this
  · cases h

theorem weights_all {e : TypeId} {ds : List (DataW H)} {n : Nat} {d : DataW H} (hd : d ∈ ds) (hn : n ∈ d.weights P e) : n ∈ DataW.weightsAll P e ds := by
  induction ds with
  | nil => simp at hd
  | cons x r ih =>
    simp only [DataW.weightsAll, List.mem_append]
    rcases List.mem_cons.1 hd with rfl | hd
    · exact .inl hn
    · exact .inr (ih hd)

def Opened (P : Program) (km : Km) (w : World) (S : Addr → Prop) (K : Nat → Nat → Option Nat) (t : TypeId) (cs : List Value) : Prop :=
    cs.length = P.cellsOf t ∧ ∃ pl : List PV, pl.length = cs.length ∧ Is P t pl ∧ (∀ v ∈ cs, v.oneCell' = true) ∧ clL pl = true ∧ ∀ (i : Nat) v p, cs[i]? = some v → pl[i]? = some p → Rep km w.cell? S K v p

theorem tile_le : ∀ {fl : List Field} {k e : Nat}, tile P k fl = some e → k ≤ e
  | [], k, e, h => by simp [tile] at h; omega
  | f :: r, k, e, h => by
    simp only [tile] at h
    split at h
    · have := tile_le h; omega
    · cases h

theorem clL_append {a b : List PV} (ha : clL a = true) (hb : clL b = true) : clL (a ++ b) = true := by
  induction a with
  | nil => exact hb
  | cons x r ih => simp only [clL, Bool.and_eq_true, List.cons_append] at ha ⊢; exact ⟨ha.1, ih ha.2⟩

theorem glue : ∀ (fl : List Field) (k e : Nat) (cs : List Value), tile P k fl = some e → (∀ f ∈ fl, Opened P km w S K f.type ((cs.drop f.offset).take (P.cellsOf f.type))) →
    ∃ pl : List PV, pl.length = e - k ∧ (∀ f ∈ fl, k ≤ f.offset ∧ Is P f.type ((pl.drop (f.offset - k)).take (P.cellsOf f.type))) ∧ clL pl = true ∧
      ∀ j, k ≤ j → j < e → ∃ v, cs[j]? = some v ∧ v.oneCell' = true ∧ ∀ p, pl[j - k]? = some p → Rep km w.cell? S K v p
  | [], k, e, cs, h, _ => by
    simp only [tile, Option.some.injEq] at h
    exact ⟨[], by simp; omega, fun f hf => by simp at hf, rfl, fun j h1 h2 => by omega⟩
  | f :: r, k, e, cs, h, hf => by
    simp only [tile] at h
    split at h
    · rename_i ho
      obtain ⟨p1, g1, g2, g3, g4⟩ := glue r _ e cs h fun f hf' => hf f (by simp [hf'])
      obtain ⟨q1, p0, q2, q3, q4, q5, q6⟩ := hf f (by simp)
      have hle := tile_le h
      have hl0 : p0.length = P.cellsOf f.type := by omega
      refine ⟨p0 ++ p1, by simp; omega, fun f' hf' => ?_, clL_append q5 g3, fun j h1 h2 => ?_⟩
      · rcases List.mem_cons.1 hf' with rfl | hf'
        · refine ⟨by omega, ?_⟩
          have : ((p0 ++ p1).drop (f'.offset - k)).take (P.cellsOf f'.type) = p0 := by
            rw [ho, Nat.sub_self, List.drop_zero, ← hl0, List.take_left']
            rfl
          rw [this]; exact q3
        · obtain ⟨d1, d2⟩ := g2 f' hf'
          refine ⟨by omega, ?_⟩
          have : (p0 ++ p1).drop (f'.offset - k) = p1.drop (f'.offset - (k + P.cellsOf f.type)) := by
            rw [List.drop_append, List.drop_eq_nil_of_le (by omega), List.nil_append]
            congr 1
            omega
          rw [this]; exact d2
      · by_cases hj : j < k + P.cellsOf f.type
        · have hj' : j - k < ((cs.drop f.offset).take (P.cellsOf f.type)).length := by omega
          have e1 : ((cs.drop f.offset).take (P.cellsOf f.type))[j - k]? = cs[j]? := by
            rw [List.getElem?_take, if_pos (by omega), List.getElem?_drop]
            congr 1
            omega
          have e2 := List.getElem?_eq_getElem hj'
          refine ⟨_, by rw [← e1, e2], q4 _ (List.getElem_mem hj'), fun p hp => ?_⟩
          rw [List.getElem?_append_left (by omega)] at hp
          exact q6 _ _ _ e2 hp
        · obtain ⟨v, h5, h6, h7⟩ := g4 j (by omega) h2
          refine ⟨v, h5, h6, fun p hp => ?_⟩
          rw [List.getElem?_append_right (by omega)] at hp
          exact h7 p (by rw [← hp]; congr 1; omega)
    · cases h

theorem open_is (hS : ∀ a, (w.cell? a).isSome = true → S a) : ∀ (n m : Nat) (t : TypeId) (cs : List Value) (d : DataW H) (ps : List MemPlace), okT P n t = true →
    DataW.trod enc P w 0 spare held m t cs = some (d, ps) → (∀ x ∈ d.weights P t, x ≤ reachBytes) →
    Opened P km w S K t cs
  | 0, _, _, _, _, _, h, _, _ => by simp [okT] at h
  | n + 1, m, t, cs, d, ps, hok, ht, hw => by
    unfold okT at hok
    split at hok
    · rename_i hu
      obtain ⟨b, rfl, _⟩ := DataW.trod_bool hu ht
      refine ⟨by simp at hok; simp [hok], [.sc (.bool b)], rfl, .bool t b hu, by simp [Value.oneCell'], rfl, fun i v p hv hp => ?_⟩
      cases i with
      | zero => simp at hv hp; subst hv; subst hp; exact .sc _ rfl
      | succ i => simp at hv
    · rename_i k hu
      obtain ⟨q, rfl, _, hwf⟩ := DataW.trod_int hu ht
      refine ⟨by simp at hok; simp [hok], [.sc (.int k q)], rfl, .int t k q hu hwf, by simp [Value.oneCell'], rfl, fun i v p hv hp => ?_⟩
      cases i with
      | zero => simp at hv hp; subst hv; subst hp; exact .sc _ rfl
      | succ i => simp at hv
    · rename_i hu
      obtain ⟨s, rfl, hx, _⟩ := DataW.trod_string hu ht
      simp only [Prod.mk.injEq] at hx
      have hsz : s.size ≤ reachBytes := by
        have := hw s.data.toList.length (by rw [hx.1]; simp [DataW.weights])
        simpa using this
      refine ⟨by simp at hok; simp [hok], [.sc (.string s)], rfl, .str t s hu hsz, by simp [Value.oneCell'], rfl, fun i v p hv hp => ?_⟩
      cases i with
      | zero => simp at hv hp; subst hv; subst hp; exact .sc _ rfl
      | succ i => simp at hv
    · rename_i e hu
      simp only [Bool.and_eq_true, beq_iff_eq, decide_eq_true_eq] at hok
      obtain ⟨⟨h1, h0⟩, he⟩ := hok
      rcases DataW.trod_slice hu ht with ⟨rfl, hx⟩ | ⟨a, len, cap, elems, rest, q, _, rfl, hx, _, hl, _, hlen, hel, _⟩
      · refine ⟨by simp [h1], [.sl []], rfl, .sl t e [] hu (by simp) (fun ys h => by simp at h), by simp [Value.oneCell'], rfl, fun i v p hv hp => ?_⟩
        cases i with
        | zero =>
          simp at hv hp; subst hv; subst hp
          exact .sl none 0 0 0 0 1 [] (fun _ _ => .nilFunc) rfl (Nat.le_refl _) (.inl rfl) rfl (fun i j hi => by omega) (fun i x hx => by simp at hx) (fun i j x p hx => by simp at hx)
        | succ i => simp at hv
      · simp only [Prod.mk.injEq] at hx
        have hone : ∀ i, i < len → ∃ ys : List PV × List Value, w.cells? 0 (a.add (i * P.cellsOf e)) (P.cellsOf e) = some ys.2 ∧ ys.1.length = P.cellsOf e ∧ Is P e ys.1 ∧ (∀ v ∈ ys.2, v.oneCell' = true) ∧ clL ys.1 = true ∧
            ∀ (j : Nat) v p, ys.2[j]? = some v → ys.1[j]? = some p → Rep km w.cell? S K v p := by
          intro i hi
          have h2 := hel i hi
          have hx' : elems[i]? = some (elems[i]'(by omega)) := List.getElem?_eq_getElem (by omega)
          rw [hx'] at h2
          obtain ⟨c1, hc1, hy1⟩ := Option.bind_eq_some_iff.1 h2
          have hw1 : ∀ x ∈ (elems[i]'(by omega)).1.weights P e, x ≤ reachBytes := fun x hx1 => hw x (by
            rw [hx.1]
            simp only [DataW.weights, hu, List.mem_cons, List.mem_append]
            exact .inr (.inl (weights_all (List.mem_map.2 ⟨_, List.getElem_mem (by omega), rfl⟩) hx1)))
          obtain ⟨g1, pl, g2, g3, g4, g5, g6⟩ := open_is hS n q e c1 _ _ he (by rw [hy1]) hw1
          exact ⟨(pl, c1), hc1, by rw [g2, g1], g3, g4, g5, g6⟩
        obtain ⟨us, hul, hus⟩ := list_of hone
        have hwt : len * P.bytesOf e ≤ reachBytes := by
          have h3 := hw ((elems.map (·.1)).length * P.bytesOf e + (rest.map (·.1)).length * P.bytesOf e) (by rw [hx.1]; simp [DataW.weights, hu, Nat.add_mul])
          simp only [List.length_map, hlen] at h3
          omega
        refine ⟨by simp [h1], [.sl ((us.map (·.1)).map (mkPV (isAgg P e)))], rfl, .sl t e (us.map (·.1)) hu (by simpa [hul] using hwt) (fun ys hys => ?_), by simp [Value.oneCell'], ?_, fun i v p hv hp => ?_⟩
        · obtain ⟨u, hu1, rfl⟩ := List.mem_map.1 hys
          obtain ⟨k, hk⟩ := List.getElem?_of_mem hu1
          exact (hus k u hk).2.2.1
        · simp only [clL, cl, Bool.and_self]
        · cases i with
          | succ i => simp at hv
          | zero =>
            simp only [List.getElem?_cons_zero, Option.some.injEq] at hv hp; subst hv; subst hp
            have hspot : ∀ i j, i < len → j < P.cellsOf e → ∃ v, w.cell? (((a.add (i * P.cellsOf e))).add j) = some v ∧ ((a.add (i * P.cellsOf e))).add j = ⟨a.block, a.off + (i * P.cellsOf e + j), none⟩ ∧ (∃ u, us[i]? = some u ∧ u.2[j]? = some v) := by
              intro i j hi hj
              have hk : us[i]? = some (us[i]'(by omega)) := List.getElem?_eq_getElem (by omega)
              obtain ⟨c1, c2, _⟩ := hus i _ hk
              obtain ⟨d1, d2⟩ := cells_get c1
              have hv2 : (us[i]'(by omega)).2[j]? = some ((us[i]'(by omega)).2[j]'(by omega)) := List.getElem?_eq_getElem (by omega)
              refine ⟨_, by rw [d2 j hj, hv2], ?_, _, hk, hv2⟩
              have hs : (w.cell? (((a.add (i * P.cellsOf e))).add j)).isSome = true := by rw [d2 j hj, hv2]; rfl
              have hsp : (((a.add (i * P.cellsOf e))).add j).spot = none := by
                unfold World.cell? at hs
                split at hs
                · split at hs
                  · simp at hs
                  · rename_i hh; simpa using hh
                · simp at hs
              obtain ⟨ab, ao, as⟩ := a
              unfold Addr.add at hsp ⊢
              by_cases hj0 : j = 0
              · by_cases hi0 : i * P.cellsOf e = 0
                · simp [hj0, hi0] at hsp ⊢; exact hsp
                · simp [hj0, hi0]
              · by_cases hi0 : i * P.cellsOf e = 0
                · simp [hj0, hi0]
                · simp [hj0, hi0, Nat.add_assoc]
            have hlist : ((us.map (·.1)).map (mkPV (isAgg P e))) = us.map fun u => mkPV (isAgg P e) u.1 := by simp
            rw [hlist]
            refine .sl (some a) len cap a.block a.off (P.cellsOf e) _ (fun i j => (w.cell? ⟨a.block, a.off + (i * P.cellsOf e + j), none⟩).getD .nilFunc) (by simp [hul]) hl ?_ ?_ ?_ ?_ ?_
            · by_cases h00 : len = 0
              · exact .inl h00
              · right
                obtain ⟨v, _, h5, _⟩ := hspot 0 0 (by omega) h0
                simp [Addr.add] at h5
                rw [h5]
            · exact clL_of fun p hp => by
                obtain ⟨u, hu1, rfl⟩ := List.mem_map.1 hp
                obtain ⟨k, hk⟩ := List.getElem?_of_mem hu1
                obtain ⟨_, g2, g3, _, g5, _⟩ := hus k u hk
                unfold mkPV
                split
                · simpa [cl] using g5
                · cases hu1' : u.1 with
                  | nil => rfl
                  | cons x r => rw [hu1'] at g5; simp only [clL, Bool.and_eq_true] at g5; exact g5.1
            · intro i j hi hj
              obtain ⟨v, h4, h5, u, h6, h7⟩ := hspot i j hi hj
              rw [h5] at h4
              simp only [h4, Option.getD_some]
              exact ⟨trivial, hS _ (by rw [h4]; rfl), (hus i u h6).2.2.2.1 v (List.mem_of_getElem? h7)⟩
            · intro i x hx1
              rw [List.getElem?_map] at hx1
              obtain ⟨u, hu1, rfl⟩ := Option.map_eq_some_iff.1 hx1
              rw [(hus i u hu1).2.2.1.mk_cells]
              exact (hus i u hu1).2.1
            · intro i j x p hx1 hp1
              rw [List.getElem?_map] at hx1
              obtain ⟨u, hu1, rfl⟩ := Option.map_eq_some_iff.1 hx1
              obtain ⟨g1, g2, g3, _, _, g6⟩ := hus i u hu1
              rw [g3.mk_cells] at hp1
              have hi : i < len := by have := (List.getElem?_eq_some_iff.1 hu1).1; omega
              have hj : j < P.cellsOf e := by have := (List.getElem?_eq_some_iff.1 hp1).1; omega
              obtain ⟨v, h4, h5, u', h6, h7⟩ := hspot i j hi hj
              rw [hu1] at h6
              simp only [Option.some.injEq] at h6
              subst h6
              rw [h5] at h4
              simp only [h4, Option.getD_some]
              exact g6 j v p h7 hp1
    · rename_i fs hu
      simp only [Bool.and_eq_true, List.all_eq_true, beq_iff_eq] at hok
      obtain ⟨hf, htile⟩ := hok
      obtain ⟨xs, q, _, hx, hlen, hxl, hfi⟩ := DataW.trod_struct hu ht
      simp only [Prod.mk.injEq] at hx
      have hall : ∀ f ∈ fs.toList, Opened P km w S K f.type ((cs.drop f.offset).take (P.cellsOf f.type)) := by
        intro f hfm
        obtain ⟨i, hf1⟩ := List.getElem?_of_mem hfm
        have hf1' : fs[i]? = some f := by simpa using hf1
        have hi : i < fs.size := by have := (List.getElem?_eq_some_iff.1 hf1).1; simpa using this
        have h2 := hfi i f hf1'
        have hx' : xs[i]? = some (xs[i]'(by omega)) := List.getElem?_eq_getElem (by omega)
        rw [hx'] at h2
        have hw1 : ∀ x ∈ (xs[i]'(by omega)).1.weights P f.type, x ≤ reachBytes := fun x hx1 => hw x (by
          rw [hx.1]
          simp only [DataW.weights, hu]
          exact DataW.weights_mem_each (j := i) (by simp [hf1']) (by rw [List.getElem?_map, hx']; rfl) x hx1)
        exact open_is hS n q f.type _ _ _ (hf f hfm) (by rw [h2]) hw1
      obtain ⟨pl, g1, g2, g3, g4⟩ := glue (P := P) (km := km) (w := w) (S := S) (K := K) fs.toList 0 (P.cellsOf t) cs htile hall
      refine ⟨hlen, pl, by omega, .st t fs pl hu (by omega) (fun i f hf1 => ?_), fun v hv => ?_, g3, fun i v p hv hp => ?_⟩
      · exact (g2 f (by simpa using Array.mem_of_getElem? hf1)).2
      · obtain ⟨k, hk⟩ := List.getElem?_of_mem hv
        have hk1 : k < P.cellsOf t := by have := (List.getElem?_eq_some_iff.1 hk).1; omega
        obtain ⟨v', h5, h6, _⟩ := g4 k (Nat.zero_le _) hk1
        rw [hk] at h5
        simp only [Option.some.injEq] at h5
        exact h5 ▸ h6
      · have hk1 : i < P.cellsOf t := by have := (List.getElem?_eq_some_iff.1 hv).1; omega
        obtain ⟨v', h5, _, h6⟩ := g4 i (Nat.zero_le _) hk1
        rw [hv] at h5
        simp only [Option.some.injEq] at h5
        exact h5 ▸ h6 p hp
    · cases hok

/-- An argument of a call. -/
theorem open_arg {n : Nat} {r : Reach} {base : Nat} {t : TypeId} {v : Value} {d : DataW H} {ps : List MemPlace} (hok : okT P n t = true) (hval : Value.okWide P w r base t v) (h : DataW.Trod enc P w 0 spare held t v d ps)
    (hw : ∀ x ∈ d.weights P t, x ≤ reachBytes) : ∃ pl, Is P t pl ∧ Rep km w.cell? (fun _ => True) K v (mkPV (isAgg P t) pl) := by
  obtain ⟨m, hm⟩ := h
  obtain ⟨h1, pl, h2, h3, h4, h5, h6⟩ := open_is (km := km) (S := fun _ => True) (K := K) (fun _ _ => trivial) n m t v.cells.toList d ps hok hm hw
  refine ⟨pl, h3, ?_⟩
  have one : isAgg P t = false → v.cells.toList = [v] → Rep km w.cell? (fun _ => True) K v (mkPV (isAgg P t) pl) := by
    intro ha hc
    rw [hc] at h2 h6
    obtain ⟨p, rfl⟩ : ∃ p, pl = [p] := List.length_eq_one_iff.1 (by simpa using h2)
    simp only [mkPV, ha, Bool.false_eq_true, if_false, List.headD_cons]
    exact h6 0 v p rfl rfl
  cases n with
  | zero => simp [okT] at hok
  | succ n =>
    unfold okT at hok
    split at hok
    · rename_i hu
      obtain ⟨b, rfl⟩ := Go.WideShapes.okWide_bool hu hval
      exact one (by simp [isAgg, hu]) rfl
    · rename_i k hu
      obtain ⟨b, rfl⟩ := Go.WideShapes.okWide_int hu hval
      exact one (by simp [isAgg, hu]) rfl
    · rename_i hu
      obtain ⟨b, rfl⟩ := Go.WideShapes.okWide_string hu hval
      exact one (by simp [isAgg, hu]) rfl
    · rename_i e hu
      obtain ⟨a, len, cap, rfl⟩ := Go.WideShapes.okWide_slice hu hval
      exact one (by simp [isAgg, hu]) rfl
    · rename_i fs hu
      obtain ⟨cs, rfl, _⟩ := Go.WideShapes.okWide_struct hu hval
      have ha : isAgg P t = true := by simp [isAgg, hu]
      simp only [mkPV, ha, if_true]
      have hc : (Value.agg cs).cells.toList = cs.toList := rfl
      rw [hc] at h2 h4 h6
      exact .agg cs.toList pl h2.symm h4 h6
    · cases hok

end

/-- A call of a law that answers true. -/
theorem law_calls {km : Km} {env : Nat → Option Def} (hm : P.follows .mixedOrders = true) (hL : Linked km P env) {f : Nat} {args : List PV} {vs : List Value} {w : World} (gl : km.Holds w) (h : AV env f args = some (.sc (.bool true))) (hl : vs.length = args.length)
    (hr : ∀ (i : Nat) v p, vs[i]? = some v → args[i]? = some p → Rep km w.cell? (fun _ => True) (fun _ _ => none) v p) : Calls P (km f) vs.toArray w fun e w' => e = .returned (.bool true) ∧ Below w.heap.size w w' := by
  unfold AV at h
  obtain ⟨⟨r0, σ1⟩, h1, hz⟩ := Option.bind_eq_some_iff.1 h
  obtain ⟨n, hn⟩ := EV_some h1
  refine ((evF_sound hm hL n f args St.nil r0 σ1 hn).2 ⟨w, fun _ => True, gl⟩ (fun _ _ => none) w vs (inv_nil w _ gl) hl fun i v p hv hp => (hr i v p hv hp).ext (fun _ _ _ h => h) (fun a _ hs => .inl ⟨?_, trivial⟩) (fun _ h => h) (fun _ _ _ h => h)).mono ?_
  · rintro e w1 ⟨v, K1, rfl, q1, q2, q3⟩
    have hv := (fz_rep q2 (S := fun _ => True) (fun _ _ => trivial) K1 dep r0 _ v hz q1 (.inr fun _ _ _ _ _ _ _ _ => trivial)).2.inv_bool
    subst hv
    exact ⟨rfl, q2.bel⟩
  · unfold World.cell? at hs
    split at hs
    · rename_i hb
      exact (Array.getElem?_eq_some_iff.1 hb).1
    · cases hs

theorem AV_run {env : Nat → Option Def} {f : Nat} {as : List PV} {r : PV} (n : Nat) (h : ((evF env n f as St.nil).bind fun q => fz q.2 dep q.1) = some r) : AV env f as = some r := by
  obtain ⟨⟨r0, σ⟩, h1, h2⟩ := Option.bind_eq_some_iff.1 h
  exact AV_of (EV_of h1) h2

end
end Go.Proofs.YtcpgkdaicglogaaGreatDoorPv
