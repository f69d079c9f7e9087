/-
What a told value stands for in memory; what holds of memory while a call goes on.
-/
import Derived.Test.YtcpgkdaicglogaaGreatDoorPvB
import Derived.Deep.AppendSrc
import Derived.Deep.MidRow
import Derived.Laws.IdiomRangeMap
namespace Go.Proofs.YtcpgkdaicglogaaGreatDoorPv
open Go Go.RowKit

/-- The functions' numbers, and what is known of memory from the beginning. -/
structure Km where
  fn : Nat → FuncId
  G : Addr → Value → Prop
  bt : TypeId
  bb : TypeId
  /-- what else is known of memory, that stays when memory grows -/
  T : World → Prop
  tb : ∀ w w', T w → Below w.heap.size w w' → T w'

def Km.Holds (km : Km) (w : World) : Prop := (∀ a v, km.G a v → w.cell? a = some v) ∧ km.T w

instance : CoeFun Km (fun _ => Nat → FuncId) := ⟨Km.fn⟩

section
variable (km : Km) (L : Addr → Option Value) (S : Addr → Prop) (K : Nat → Nat → Option Nat)

/-- The value stands for what is told of it: L reads memory, S are the cells that nobody writes, K are the objects' blocks. -/
inductive Rep : Value → PV → Prop
  | jk (v : Value) : Rep v .jk
  | sc (v : Value) : simple v = true → Rep v (.sc v)
  | em (a : Option Addr) : Rep (.slice a 0 0) .em
  | sl (a : Option Addr) (n cap b off es : Nat) (xs : List PV) (us : Nat → Nat → Value) : n = xs.length → n ≤ cap → (n = 0 ∨ a = some ⟨b, off, none⟩) → clL xs = true →
      (∀ i j, i < n → j < es → L ⟨b, off + (i * es + j), none⟩ = some (us i j) ∧ S ⟨b, off + (i * es + j), none⟩ ∧ (us i j).oneCell' = true) →
      (∀ (i : Nat) x, xs[i]? = some x → (cellsOf x).length = es) →
      (∀ (i j : Nat) x p, xs[i]? = some x → (cellsOf x)[j]? = some p → Rep (us i j) p) → Rep (.slice a n cap) (.sl xs)
  | fp (b off es i j : Nat) (xs : List PV) (us : Nat → Nat → Value) : clL xs = true →
      (∀ i j, i < xs.length → j < es → L ⟨b, off + (i * es + j), none⟩ = some (us i j) ∧ S ⟨b, off + (i * es + j), none⟩ ∧ (us i j).oneCell' = true) →
      (∀ (i : Nat) x, xs[i]? = some x → (cellsOf x).length = es) →
      (∀ (i j : Nat) x p, xs[i]? = some x → (cellsOf x)[j]? = some p → Rep (us i j) p) → Rep (.pointer (some ⟨b, off + (i * es + j), none⟩)) (.fp xs i j)
  | ob (o g es i n cap b : Nat) (a : Option Addr) : K o g = some b → n ≤ cap → (cap = 0 ∨ a = some ⟨b, i * es, none⟩) →
      (∀ j, j < (i + cap) * es → (L ⟨b, j, none⟩).isSome = true) → Rep (.slice a n cap) (.ob o g es i n)
  | bx (o g es i j b : Nat) : K o g = some b → Rep (.pointer (some ⟨b, i * es + j, none⟩)) (.bx o g es i j)
  | fn (f : Nat) (vf vc : List Value) (pf pc : List PV) : vf.length = pf.length → vc.length = pc.length →
      (∀ (i : Nat) v p, vf[i]? = some v → pf[i]? = some p → Rep v p) → (∀ (i : Nat) v p, vc[i]? = some v → pc[i]? = some p → Rep v p) →
      Rep (.func (.func (km f)) vf.toArray vc.toArray) (.fn f pf pc)
  | agg (cs : List Value) (ps : List PV) : cs.length = ps.length → (∀ v ∈ cs, v.oneCell' = true) →
      (∀ (i : Nat) v p, cs[i]? = some v → ps[i]? = some p → Rep v p) → Rep (.agg cs.toArray) (.agg ps)
  | tu (cs : List Value) (ps : List PV) : cs.length = ps.length →
      (∀ (i : Nat) v p, cs[i]? = some v → ps[i]? = some p → Rep v p) → Rep (.tuple cs.toArray) (.tu ps)
  | ifc (t : Nat) (v : Value) (p : PV) : Rep v p → Rep (.iface t v) (.ifc t p)
  | mp (o g b : Nat) : K o g = some b → Rep (.map (some b)) (.mp o g)
end

theorem Rep.ext {km : Km} {L L' : Addr → Option Value} {S S' : Addr → Prop} {K K' : Nat → Nat → Option Nat}
    (hL : ∀ a v, S a → L a = some v → L' a = some v) (hS : ∀ a, S a → (L a).isSome = true → S' a) (hI : ∀ a, (L a).isSome = true → (L' a).isSome = true)
    (hK : ∀ o g b, K o g = some b → K' o g = some b) {v : Value} {p : PV} (h : Rep km L S K v p) : Rep km L' S' K' v p := by
  induction h with
  | jk v => exact .jk v
  | sc v h => exact .sc v h
  | em a => exact .em a
  | sl a n cap b off es xs us h1 h2 h3 h4 h5 h6 _ ih =>
    exact .sl a n cap b off es xs us h1 h2 h3 h4 (fun i j hi hj => by
      obtain ⟨q1, q2, q3⟩ := h5 i j hi hj
      exact ⟨hL _ _ q2 q1, hS _ q2 (by rw [q1]; rfl), q3⟩) h6 ih
  | fp b off es i j xs us h4 h5 h6 _ ih =>
    exact .fp b off es i j xs us h4 (fun i j hi hj => by
      obtain ⟨q1, q2, q3⟩ := h5 i j hi hj
      exact ⟨hL _ _ q2 q1, hS _ q2 (by rw [q1]; rfl), q3⟩) h6 ih
  | ob o g es i n cap b a h1 h2 h3 h4 => exact .ob o g es i n cap b a (hK _ _ _ h1) h2 h3 fun j hj => hI _ (h4 j hj)
  | bx o g es i j b h1 => exact .bx o g es i j b (hK _ _ _ h1)
  | fn f vf vc pf pc h1 h2 _ _ ih1 ih2 => exact .fn f vf vc pf pc h1 h2 ih1 ih2
  | agg cs ps h1 h2 _ ih => exact .agg cs ps h1 h2 ih
  | tu cs ps h1 _ ih => exact .tu cs ps h1 ih
  | ifc t v p _ ih => exact .ifc t v p ih
  | mp o g b h => exact .mp o g b (hK _ _ _ h)

theorem clL_mem {l : List PV} (h : clL l = true) {i : Nat} {p : PV} (hi : l[i]? = some p) : cl p = true := by
  induction l generalizing i with
  | nil => simp at hi
  | cons x r ih =>
    simp only [clL, Bool.and_eq_true] at h
    cases i with
    | zero => simp at hi; exact hi ▸ h.1
    | succ i => exact ih h.2 (by simpa using hi)

theorem clL_of {l : List PV} (h : ∀ p ∈ l, cl p = true) : clL l = true := by
  induction l with
  | nil => rfl
  | cons x r ih => simp only [clL, Bool.and_eq_true]; exact ⟨h x (by simp), ih fun p hp => h p (by simp [hp])⟩

theorem cl_cellsOf {x : PV} (h : cl x = true) {j : Nat} {p : PV} (hj : (cellsOf x)[j]? = some p) : cl p = true := by
  cases x with
  | agg cs => exact clL_mem (l := cs) (by simpa [cl] using h) hj
  | _ =>
    cases j with
    | zero => simp only [cellsOf, List.getElem?_cons_zero, Option.some.injEq] at hj; exact hj ▸ h
    | succ j => simp [cellsOf] at hj

/-- Of a closed value it doesn't matter where objects lie. -/
theorem Rep.closed {km : Km} {L : Addr → Option Value} {S : Addr → Prop} {K K' : Nat → Nat → Option Nat} {v : Value} {p : PV} (h : Rep km L S K v p) (hc : cl p = true) : Rep km L S K' v p := by
  induction h with
  | jk v => exact .jk v
  | sc v h => exact .sc v h
  | em a => exact .em a
  | sl a n cap b off es xs us h1 h2 h3 h4 h5 h6 _ ih =>
    exact .sl a n cap b off es xs us h1 h2 h3 h4 h5 h6 fun i j x p hx hp => ih i j x p hx hp (cl_cellsOf (clL_mem h4 hx) hp)
  | fp b off es i j xs us h4 h5 h6 _ ih =>
    exact .fp b off es i j xs us h4 h5 h6 fun i j x p hx hp => ih i j x p hx hp (cl_cellsOf (clL_mem h4 hx) hp)
  | ob => simp [cl] at hc
  | bx => simp [cl] at hc
  | fn f vf vc pf pc h1 h2 _ _ ih1 ih2 =>
    simp only [cl, Bool.and_eq_true] at hc
    exact .fn f vf vc pf pc h1 h2 (fun i v p hv hp => ih1 i v p hv hp (clL_mem hc.1 hp)) fun i v p hv hp => ih2 i v p hv hp (clL_mem hc.2 hp)
  | agg cs ps h1 h2 _ ih => exact .agg cs ps h1 h2 fun i v p hv hp => ih i v p hv hp (clL_mem (by simpa [cl] using hc) hp)
  | tu cs ps h1 _ ih => exact .tu cs ps h1 fun i v p hv hp => ih i v p hv hp (clL_mem (by simpa [cl] using hc) hp)
  | ifc t v p _ ih => exact .ifc t v p (ih (by simpa [cl] using hc))
  | mp => simp [cl] at hc

theorem flatL_mem {l : List PV} (h : flatL l = true) {i : Nat} {p : PV} (hi : l[i]? = some p) : flat p = true := by
  induction l generalizing i with
  | nil => simp at hi
  | cons x r ih =>
    simp only [flatL, Bool.and_eq_true] at h
    cases i with
    | zero => simp at hi; exact hi ▸ h.1
    | succ i => exact ih h.2 (by simpa using hi)

/-- A value that leads to no memory stands for the same everywhere. -/
theorem Rep.flat {km : Km} {L L' : Addr → Option Value} {S S' : Addr → Prop} {K K' : Nat → Nat → Option Nat} {v : Value} {p : PV} (h : Rep km L S K v p) (hc : flat p = true) : Rep km L' S' K' v p := by
  induction h with
  | jk v => exact .jk v
  | sc v h => exact .sc v h
  | em a => exact .em a
  | sl a n cap b off es xs us h1 h2 h3 h4 h5 h6 _ _ =>
    have hx : xs = [] := by simpa [Go.Proofs.YtcpgkdaicglogaaGreatDoorPv.flat] using hc
    subst hx
    exact .sl a n cap b off es [] us h1 h2 h3 rfl (fun i j hi => by simp at h1; omega) (fun i x hx => by simp at hx) (fun i j x p hx => by simp at hx)
  | fp => simp [Go.Proofs.YtcpgkdaicglogaaGreatDoorPv.flat] at hc
  | ob => simp [Go.Proofs.YtcpgkdaicglogaaGreatDoorPv.flat] at hc
  | bx => simp [Go.Proofs.YtcpgkdaicglogaaGreatDoorPv.flat] at hc
  | fn => simp [Go.Proofs.YtcpgkdaicglogaaGreatDoorPv.flat] at hc
  | agg cs ps h1 h2 _ ih => exact .agg cs ps h1 h2 fun i v p hv hp => ih i v p hv hp (flatL_mem (by simpa [Go.Proofs.YtcpgkdaicglogaaGreatDoorPv.flat] using hc) hp)
  | tu cs ps h1 _ ih => exact .tu cs ps h1 fun i v p hv hp => ih i v p hv hp (flatL_mem (by simpa [Go.Proofs.YtcpgkdaicglogaaGreatDoorPv.flat] using hc) hp)
  | ifc t v p _ ih => exact .ifc t v p (ih (by simpa [Go.Proofs.YtcpgkdaicglogaaGreatDoorPv.flat] using hc))
  | mp => simp [Go.Proofs.YtcpgkdaicglogaaGreatDoorPv.flat] at hc

/-! ### memory -/
structure Cx (km : Km) where
  w0 : World
  S0 : Addr → Prop
  gl : km.Holds w0

/-- Cells that nobody writes from here on. -/
def Stab {km : Km} (cx : Cx km) (K : Nat → Nat → Option Nat) (σ : St) (w : World) (a : Addr) : Prop :=
  (a.block < cx.w0.heap.size ∧ cx.S0 a) ∨
  (cx.w0.heap.size ≤ a.block ∧ a.block < w.heap.size ∧ ∀ o g x, σ.m o g = some x → x.al = true → K o g = some a.block → x.wr = false ∧ a.off < x.xs.length * x.es)

abbrev RepS (km : Km) (cx : Cx km) (K : Nat → Nat → Option Nat) (σ : St) (w : World) : Value → PV → Prop := Rep km w.cell? (Stab cx K σ w) K

/-- An object's cells. -/
structure CellsAt (km : Km) (cx : Cx km) (K : Nat → Nat → Option Nat) (σ : St) (w : World) (b : Nat) (x : Obj) : Prop where
  len : ∀ (i : Nat) e, x.xs[i]? = some e → (cellsOf e).length = x.es
  cell : ∀ (i j : Nat) e p, x.xs[i]? = some e → (cellsOf e)[j]? = some p → ∃ v, w.cell? ⟨b, i * x.es + j, none⟩ = some v ∧ v.oneCell' = true ∧ RepS km cx K σ w v p ∧
    ((x.al && x.wr) = false → Stab cx K σ w ⟨b, i * x.es + j, none⟩)

/-- What stands in a map. -/
structure MapAt (km : Km) (cx : Cx km) (K : Nat → Nat → Option Nat) (σ : St) (w : World) (b : Nat) (l : List (Value × PV)) : Prop where
  heap : ∃ es clock, w.heap[b]? = some (.map es clock) ∧ es.size = l.length ∧ ∀ (i : Nat) e q, es[i]? = some e → l[i]? = some q → e.key = q.1 ∧ RepS km cx K σ w e.val q.2

/-- What is known of an object's block by the place where it was made. -/
def SiteOk (km : Km) (w : World) (o b : Nat) : Prop := (o = bldAt → w.shape? b = some (km.bt, 2)) ∧ (o = bufAt → ∃ n, w.shape? b = some (km.bb, n))

theorem SiteOk.same {km : Km} {w w' : World} {o b : Nat} (h : SiteOk km w o b) (hs : w'.shape? b = w.shape? b) : SiteOk km w' o b := ⟨fun ho => by rw [hs]; exact h.1 ho, fun ho => by rw [hs]; exact h.2 ho⟩

def Plain (s : Nat) : Prop := s < 1000000

theorem Plain.site {km : Km} {w : World} {s b : Nat} (h : Plain s) : SiteOk km w s b := ⟨fun e => by unfold Plain bldAt at *; omega, fun e => by unfold Plain bufAt at *; omega⟩
theorem Plain.bsite {km : Km} {w : World} {s b : Nat} (h : Plain s) : SiteOk km w (2000000 + s) b := ⟨fun e => by unfold Plain bldAt at *; omega, fun e => by unfold Plain bufAt at *; omega⟩

structure Inv (km : Km) (cx : Cx km) (K : Nat → Nat → Option Nat) (σ : St) (w : World) : Prop where
  bel : Below cx.w0.heap.size cx.w0 w
  kb : ∀ o g b, K o g = some b → cx.w0.heap.size ≤ b ∧ b < w.heap.size
  iss : ∀ o g b, K o g = some b → g < σ.c o
  dom : ∀ o g x, σ.m o g = some x → ∃ b, K o g = some b ∧ CellsAt km cx K σ w b x
  alv : ∀ o g x b, σ.m o g = some x → x.al = true → K o g = some b → (∃ c t fr, w.heap[b]? = some (.cells c t fr)) ∧ ∀ off, w.frozen? ⟨b, off, none⟩ = true → x.wr = false ∧ off < x.xs.length * x.es
  dis : ∀ o g x o' g' x' b, σ.m o g = some x → x.al = true → K o g = some b → σ.m o' g' = some x' → x'.al = true → K o' g' = some b → o = o' ∧ g = g'
  bld : ∀ o g b, K o g = some b → SiteOk km w o b
  mdom : ∀ o g l, σ.mm o g = some l → ∃ b, K o g = some b ∧ MapAt km cx K σ w b l
  mdis : ∀ o g l o' g' l' b, σ.mm o g = some l → K o g = some b → σ.mm o' g' = some l' → K o' g' = some b → o = o' ∧ g = g'

theorem cell_lt {w : World} {a : Addr} (h : (w.cell? a).isSome = true) : a.block < w.heap.size := by
  unfold World.cell? at h
  split at h
  · rename_i hb
    exact (Array.getElem?_eq_some_iff.1 hb).1
  · cases h

theorem Inv.holds {km : Km} {cx : Cx km} {K : Nat → Nat → Option Nat} {σ : St} {w : World} (hi : Inv km cx K σ w) : km.Holds w :=
  ⟨fun a v h => by
    have h0 := cx.gl.1 a v h
    rw [hi.bel.cell (cell_lt (by rw [h0]; rfl))]
    exact h0, km.tb _ _ cx.gl.2 hi.bel⟩

theorem Inv.glob {km : Km} {cx : Cx km} {K : Nat → Nat → Option Nat} {σ : St} {w : World} (hi : Inv km cx K σ w) {a : Addr} {v : Value} (h : km.G a v) : w.cell? a = some v := by
  exact hi.holds.1 a v h

structure Ext {km : Km} (cx : Cx km) (K : Nat → Nat → Option Nat) (σ : St) (w : World) (K' : Nat → Nat → Option Nat) (σ' : St) (w' : World) : Prop where
  k : ∀ o g b, K o g = some b → K' o g = some b
  cell : ∀ a v, Stab cx K σ w a → w.cell? a = some v → w'.cell? a = some v
  stab : ∀ a, Stab cx K σ w a → (w.cell? a).isSome = true → Stab cx K' σ' w' a
  some_ : ∀ a, (w.cell? a).isSome = true → (w'.cell? a).isSome = true

theorem Ext.refl {km : Km} {cx : Cx km} {K : Nat → Nat → Option Nat} {σ : St} {w : World} : Ext cx K σ w K σ w := ⟨fun _ _ _ h => h, fun _ _ _ h => h, fun _ h _ => h, fun _ h => h⟩

theorem Ext.trans {km : Km} {cx : Cx km} {K K' K'' : Nat → Nat → Option Nat} {σ σ' σ'' : St} {w w' w'' : World} (h : Ext cx K σ w K' σ' w') (h' : Ext cx K' σ' w' K'' σ'' w'') : Ext cx K σ w K'' σ'' w'' :=
  ⟨fun o g b q => h'.k o g b (h.k o g b q), fun a v s q => h'.cell a v (h.stab a s (by rw [q]; rfl)) (h.cell a v s q),
    fun a s q => h'.stab a (h.stab a s q) (h.some_ a q), fun a q => h'.some_ a (h.some_ a q)⟩

theorem Ext.rep {km : Km} {cx : Cx km} {K K' : Nat → Nat → Option Nat} {σ σ' : St} {w w' : World} (h : Ext cx K σ w K' σ' w') {v : Value} {p : PV} (hr : RepS km cx K σ w v p) : RepS km cx K' σ' w' v p :=
  hr.ext h.cell h.stab h.some_ h.k

theorem MapAt.ext {km : Km} {cx : Cx km} {K K' : Nat → Nat → Option Nat} {σ σ' : St} {w w' : World} {b : Nat} {l : List (Value × PV)} (h : MapAt km cx K σ w b l) (hx : Ext cx K σ w K' σ' w') (hb : w'.heap[b]? = w.heap[b]?) : MapAt km cx K' σ' w' b l := by
  obtain ⟨es, clock, h1, h2, h3⟩ := h.heap
  exact ⟨es, clock, by rw [hb]; exact h1, h2, fun i e q he hq => ⟨(h3 i e q he hq).1, hx.rep (h3 i e q he hq).2⟩⟩

/-- A map's block holds no cells. -/
theorem MapAt.nocell {km : Km} {cx : Cx km} {K : Nat → Nat → Option Nat} {σ : St} {w : World} {b : Nat} {l : List (Value × PV)} (h : MapAt km cx K σ w b l) : ∀ c t fr, w.heap[b]? ≠ some (.cells c t fr) := by
  obtain ⟨es, clock, h1, _⟩ := h.heap
  intro c t fr h
  rw [h1] at h
  cases h

end Go.Proofs.YtcpgkdaicglogaaGreatDoorPv
