/-
What holds of memory stays, when blocks are added.
-/
import Derived.Test.YtcpgkdaicglogaaGreatDoorPvF
namespace Go.Proofs.YtcpgkdaicglogaaGreatDoorPv
open Go Go.RowKit

section
variable {km : Km} {P : Program} {A : Ann} {cx : Cx km} {K : Nat → Nat → Option Nat} {σ σ' : St} {w w' : World}

theorem shape_of_heap {w w' : World} {b : Nat} (h : w'.heap[b]? = w.heap[b]?) : w'.shape? b = w.shape? b := by
  unfold World.shape?; rw [h]

theorem inv_grow (hi : Inv km cx K σ w) (hb : Below w.heap.size w w') : Inv km cx K σ w' ∧ Ext cx K σ w K σ w' := by
  have hsz := hi.bel.size
  have hcell : ∀ a, a.block < w.heap.size → w'.cell? a = w.cell? a := fun a h => hb.cell h
  have hext : Ext cx K σ w K σ w' := by
    refine ⟨fun _ _ _ h => h, fun a v _ h => ?_, fun a hs h => ?_, fun a h => ?_⟩
    · rw [hcell a (cell_lt (by rw [h]; rfl))]; exact h
    · rcases hs with h1 | ⟨h1, h2, h3⟩
      · exact .inl h1
      · exact .inr ⟨h1, Nat.lt_of_lt_of_le h2 hb.size, h3⟩
    · rw [hcell a (cell_lt h)]; exact h
  refine ⟨⟨?_, fun o g b h => ⟨(hi.kb o g b h).1, Nat.lt_of_lt_of_le (hi.kb o g b h).2 hb.size⟩, hi.iss, fun o g x h => ?_, fun o g x b h1 h2 h3 => ?_, hi.dis, fun o g b h => (hi.bld o g b h).same (shape_of_heap (hb.block b (hi.kb _ _ _ h).2)), fun o g l h => ?_, hi.mdis⟩, hext⟩
  · exact hi.bel.trans (hb.mono hsz)
  · obtain ⟨b, h1, h2⟩ := hi.dom o g x h
    refine ⟨b, h1, h2.len, fun i j e p he hp => ?_⟩
    obtain ⟨v, q1, q2, q3, q4⟩ := h2.cell i j e p he hp
    refine ⟨v, by rw [hcell _ (cell_lt (by rw [q1]; rfl))]; exact q1, q2, hext.rep q3, fun hf => hext.stab _ (q4 hf) (by rw [q1]; rfl)⟩
  · obtain ⟨⟨c, t, fr, h4⟩, h5⟩ := hi.alv o g x b h1 h2 h3
    have hlt := (hi.kb o g b h3).2
    refine ⟨⟨c, t, fr, by rw [hb.block b hlt]; exact h4⟩, fun off hf => h5 off ?_⟩
    have := hb.frozen (p := ⟨b, off, none⟩) hlt
    rwa [this] at hf
  · obtain ⟨b, h1, h2⟩ := hi.mdom o g l h
    exact ⟨b, h1, h2.ext hext (hb.block b (hi.kb _ _ _ h1).2)⟩

theorem Inv.mlt (hi : Inv km cx K σ w) {o g : Nat} {l : List (Value × PV)} (h : σ.mm o g = some l) : g < σ.c o := by
  obtain ⟨b, h1, _⟩ := hi.mdom o g l h
  exact hi.iss o g b h1

/-- A cell of a block that was added is one that nobody writes. -/
theorem stab_new (hi : Inv km cx K σ w) {a : Addr} (h1 : w.heap.size ≤ a.block) (h2 : a.block < w'.heap.size) : Stab cx K σ w' a := by
  refine .inr ⟨Nat.le_trans hi.bel.size h1, h2, fun o g x _ _ h => ?_⟩
  have := (hi.kb o g a.block h).2
  omega

def Kput (K : Nat → Nat → Option Nat) (s g b : Nat) : Nat → Nat → Option Nat := fun o' g' => if o' = s ∧ g' = g then some b else K o' g'

theorem Kput_new {K : Nat → Nat → Option Nat} {s g b : Nat} : Kput K s g b s g = some b := by simp [Kput]

theorem Kput_old (hi : Inv km cx K σ w) {s b0 : Nat} {o g b : Nat} (h : K o g = some b) : Kput K s (σ.c s) b0 o g = some b := by
  unfold Kput
  rw [if_neg]
  · exact h
  · rintro ⟨rfl, rfl⟩
    have := hi.iss _ _ _ h
    omega

theorem Kput_inv {s b0 g0 : Nat} {o g b : Nat} (h : Kput K s g0 b0 o g = some b) : (o = s ∧ g = g0 ∧ b = b0) ∨ (¬ (o = s ∧ g = g0) ∧ K o g = some b) := by
  unfold Kput at h
  split at h
  · rename_i hq
    simp only [Option.some.injEq] at h
    exact .inl ⟨hq.1, hq.2, h.symm⟩
  · rename_i hq
    exact .inr ⟨hq, h⟩

/-- An object of a block that was added. -/
theorem inv_new (hi : Inv km cx K σ w) (hb : Below w.heap.size w w') {s b0 : Nat} {x : Obj} (h1 : w.heap.size ≤ b0) (h2 : b0 < w'.heap.size)
    (hlen : ∀ (i : Nat) e, x.xs[i]? = some e → (cellsOf e).length = x.es)
    (hcell : ∀ (i j : Nat) e p, x.xs[i]? = some e → (cellsOf e)[j]? = some p → ∃ v, w'.cell? ⟨b0, i * x.es + j, none⟩ = some v ∧ v.oneCell' = true ∧ RepS km cx K σ w v p)
    (hal : (∃ c t fr, w'.heap[b0]? = some (.cells c t fr)) ∧ ∀ off, w'.frozen? ⟨b0, off, none⟩ = false) (hx : x.al = true ∧ x.wr = true) (hs : SiteOk km w' s b0) :
    Inv km cx (Kput K s (σ.c s) b0) (σ.new s x) w' ∧ Ext cx K σ w (Kput K s (σ.c s) b0) (σ.new s x) w' := by
  obtain ⟨hi', he'⟩ := inv_grow hi hb
  have hsz := hi.bel.size
  have hm : ∀ o g y, (σ.new s x).m o g = some y → (o = s ∧ g = σ.c s ∧ y = x) ∨ (¬ (o = s ∧ g = σ.c s) ∧ σ.m o g = some y) := by
    intro o g y h
    simp only [St.new] at h
    split at h
    · rename_i hq; simp only [Option.some.injEq] at h; exact .inl ⟨hq.1, hq.2, h.symm⟩
    · rename_i hq; exact .inr ⟨hq, h⟩
  have hst : ∀ a, Stab cx K σ w' a → a.block ≠ b0 → Stab cx (Kput K s (σ.c s) b0) (σ.new s x) w' a := by
    intro a h hne
    rcases h with h | ⟨q1, q2, q3⟩
    · exact .inl h
    · refine .inr ⟨q1, q2, fun o g y hy hal' hk => ?_⟩
      rcases hm o g y hy with ⟨rfl, rfl, rfl⟩ | ⟨hne', hy'⟩
      · rw [Kput_new] at hk; simp only [Option.some.injEq] at hk; exact absurd hk.symm hne
      · rcases Kput_inv hk with ⟨r1, r2, _⟩ | ⟨_, hk'⟩
        · exact absurd ⟨r1, r2⟩ hne'
        · exact q3 o g y hy' hal' hk'
  have hext : Ext cx K σ w (Kput K s (σ.c s) b0) (σ.new s x) w' := by
    refine ⟨fun o g b h => Kput_old hi h, he'.cell, fun a h1' h2' => hst a (he'.stab a h1' h2') ?_, he'.some_⟩
    have := cell_lt h2'
    omega
  refine ⟨⟨hi'.bel, fun o g b h => ?_, fun o g b h => ?_, fun o g y h => ?_, fun o g y b q1 q2 q3 => ?_, fun o g y o' g' y' b q1 q2 q3 q4 q5 q6 => ?_, fun o g b h => ?_, fun o g l h => ?_, fun o g l o' g' l' b q1 q2 q3 q4 => ?_⟩, hext⟩
  · rcases Kput_inv h with ⟨_, _, rfl⟩ | ⟨_, h⟩
    · exact ⟨by omega, h2⟩
    · exact hi'.kb o g b h
  · rcases Kput_inv h with ⟨rfl, rfl, _⟩ | ⟨hne, h⟩
    · simp [St.new]
    · have := hi.iss o g b h
      simp only [St.new]
      split
      · rename_i ho; subst ho; omega
      · exact this
  · rcases hm o g y h with ⟨rfl, rfl, rfl⟩ | ⟨hne, h'⟩
    · refine ⟨b0, Kput_new, hlen, fun i j e p he hp => ?_⟩
      obtain ⟨v, q1, q2, q3⟩ := hcell i j e p he hp
      exact ⟨v, q1, q2, hext.rep q3, fun hf => by simp [hx.1, hx.2] at hf⟩
    · obtain ⟨b, r1, r2⟩ := hi'.dom o g y h'
      have hbl : b ≠ b0 := by
        obtain ⟨b', r3, _⟩ := hi.dom o g y h'
        have := (hi.kb o g b' r3).2
        rw [r1] at r3
        simp only [Option.some.injEq] at r3
        omega
      refine ⟨b, Kput_old hi r1, r2.len, fun i j e p he hp => ?_⟩
      obtain ⟨v, q1, q2, q3, q4⟩ := r2.cell i j e p he hp
      obtain ⟨b', r3, r4⟩ := hi.dom o g y h'
      obtain rfl : b' = b := by rw [r1] at r3; simpa using r3.symm
      obtain ⟨v', s1, s2, s3, s4⟩ := r4.cell i j e p he hp
      have : v' = v := by
        have := he'.some_ _ (by rw [s1]; rfl : (w.cell? ⟨b', i * y.es + j, none⟩).isSome = true)
        have hc : w'.cell? ⟨b', i * y.es + j, none⟩ = w.cell? ⟨b', i * y.es + j, none⟩ := hb.cell (cell_lt (by rw [s1]; rfl))
        rw [hc, s1] at q1
        simpa using q1
      subst this
      exact ⟨v', q1, q2, hext.rep s3, fun hf => hst _ (q4 hf) hbl⟩
  · rcases hm o g y q1 with ⟨rfl, rfl, rfl⟩ | ⟨hne, h'⟩
    · rw [Kput_new] at q3
      simp only [Option.some.injEq] at q3
      subst q3
      exact ⟨hal.1, fun off hf => by rw [hal.2 off] at hf; cases hf⟩
    · rcases Kput_inv q3 with ⟨r1, r2, _⟩ | ⟨_, hk⟩
      · exact absurd ⟨r1, r2⟩ hne
      · exact hi'.alv o g y b h' q2 hk
  · have other : ∀ o g y, σ.m o g = some y → ∀ b, K o g = some b → b ≠ b0 := by
      intro o g y _ b hk
      have := (hi.kb o g b hk).2
      omega
    rcases hm o g y q1 with ⟨rfl, rfl, rfl⟩ | ⟨hne, h'⟩
    · rw [Kput_new] at q3
      simp only [Option.some.injEq] at q3
      subst q3
      rcases hm o' g' y' q4 with ⟨rfl, rfl, rfl⟩ | ⟨hne', h''⟩
      · exact ⟨rfl, rfl⟩
      · rcases Kput_inv q6 with ⟨r1, r2, _⟩ | ⟨_, hk⟩
        · exact absurd ⟨r1, r2⟩ hne'
        · exact absurd rfl (other _ _ _ h'' _ hk)
    · rcases Kput_inv q3 with ⟨r1, r2, _⟩ | ⟨_, hk⟩
      · exact absurd ⟨r1, r2⟩ hne
      · rcases hm o' g' y' q4 with ⟨rfl, rfl, rfl⟩ | ⟨hne', h''⟩
        · rw [Kput_new] at q6
          simp only [Option.some.injEq] at q6
          exact absurd q6.symm (other _ _ _ h' _ hk)
        · rcases Kput_inv q6 with ⟨r1, r2, _⟩ | ⟨_, hk'⟩
          · exact absurd ⟨r1, r2⟩ hne'
          · exact hi.dis _ _ _ _ _ _ _ h' q2 hk h'' q5 hk'
  · rcases Kput_inv h with ⟨r1, _, r2⟩ | ⟨_, hk⟩
    · rw [r2, r1]; exact hs
    · exact hi'.bld o g b hk
  · obtain ⟨b, r1, r2⟩ := hi.mdom o g l h
    exact ⟨b, Kput_old hi r1, r2.ext hext (hb.block b (hi.kb _ _ _ r1).2)⟩
  · have l1 := hi.mlt q1
    have l2 := hi.mlt q3
    rcases Kput_inv q2 with ⟨rfl, rfl, _⟩ | ⟨_, k1⟩
    · omega
    · rcases Kput_inv q4 with ⟨rfl, rfl, _⟩ | ⟨_, k2⟩
      · omega
      · exact hi.mdis _ _ _ _ _ _ _ q1 k1 q3 k2

/-- A map that was made. -/
theorem inv_newM (hi : Inv km cx K σ w) (hb : Below w.heap.size w w') {s b0 : Nat} (h1 : w.heap.size ≤ b0) (h2 : b0 < w'.heap.size) (hm : w'.heap[b0]? = some (.map #[] 0)) (hs : SiteOk km w' s b0) :
    Inv km cx (Kput K s (σ.c s) b0) (σ.newM s) w' ∧ Ext cx K σ w (Kput K s (σ.c s) b0) (σ.newM s) w' := by
  obtain ⟨hi', he'⟩ := inv_grow hi hb
  have hold : ∀ o g b, K o g = some b → b ≠ b0 := by
    intro o g b hk
    have := (hi.kb o g b hk).2
    omega
  have hdomK : ∀ o g x, σ.m o g = some x → ∀ b, Kput K s (σ.c s) b0 o g = some b → K o g = some b := by
    intro o g x hx b hk
    rcases Kput_inv hk with ⟨rfl, rfl, _⟩ | ⟨_, hk⟩
    · obtain ⟨b', r1, _⟩ := hi.dom _ _ _ hx
      have := hi.iss _ _ _ r1
      omega
    · exact hk
  have hst : ∀ a, Stab cx K σ w' a → Stab cx (Kput K s (σ.c s) b0) (σ.newM s) w' a := by
    intro a h
    rcases h with h | ⟨q1, q2, q3⟩
    · exact .inl h
    · exact .inr ⟨q1, q2, fun o g y hy hal' hk => q3 o g y hy hal' (hdomK o g y hy _ hk)⟩
  have hext : Ext cx K σ w (Kput K s (σ.c s) b0) (σ.newM s) w' :=
    ⟨fun o g b h => Kput_old hi h, he'.cell, fun a h1' h2' => hst a (he'.stab a h1' h2'), he'.some_⟩
  have hext' : Ext cx K σ w' (Kput K s (σ.c s) b0) (σ.newM s) w' := ⟨fun o g b h => Kput_old hi h, fun _ _ _ h => h, fun a h _ => hst a h, fun _ h => h⟩
  refine ⟨⟨hi'.bel, fun o g b h => ?_, fun o g b h => ?_, fun o g y h => ?_, fun o g y b q1 q2 q3 => hi'.alv o g y b q1 q2 (hdomK o g y q1 b q3), fun o g y o' g' y' b q1 q2 q3 q4 q5 q6 => hi'.dis _ _ _ _ _ _ b q1 q2 (hdomK _ _ _ q1 _ q3) q4 q5 (hdomK _ _ _ q4 _ q6),
    fun o g b h => ?_, fun o g l h => ?_, fun o g l o' g' l' b q1 q2 q3 q4 => ?_⟩, hext⟩
  · rcases Kput_inv h with ⟨_, _, rfl⟩ | ⟨_, h⟩
    · exact ⟨by have := hi.bel.size; omega, h2⟩
    · exact hi'.kb o g b h
  · rcases Kput_inv h with ⟨rfl, rfl, _⟩ | ⟨hne, h⟩
    · simp [St.newM]
    · have := hi.iss o g b h
      simp only [St.newM]
      split
      · rename_i ho; subst ho; omega
      · exact this
  · obtain ⟨b, r1, r2⟩ := hi'.dom o g y h
    refine ⟨b, Kput_old hi r1, r2.len, fun i j e p he hp => ?_⟩
    obtain ⟨v, q1, q2, q3, q4⟩ := r2.cell i j e p he hp
    exact ⟨v, q1, q2, hext'.rep q3, fun hf => hst _ (q4 hf)⟩
  · rcases Kput_inv h with ⟨r1, _, r2⟩ | ⟨_, hk⟩
    · rw [r2, r1]; exact hs
    · exact hi'.bld o g b hk
  · simp only [St.newM] at h
    split at h
    · rename_i hq
      simp only [Option.some.injEq] at h
      subst h
      obtain ⟨rfl, rfl⟩ := hq
      exact ⟨b0, Kput_new, ⟨#[], 0, hm, rfl, fun i e q he => by simp at he⟩⟩
    · obtain ⟨b, r1, r2⟩ := hi.mdom o g l h
      exact ⟨b, Kput_old hi r1, r2.ext hext (hb.block b (hi.kb _ _ _ r1).2)⟩
  · simp only [St.newM] at q1 q3
    split at q1
    · rename_i hq
      obtain ⟨rfl, rfl⟩ := hq
      rw [Kput_new] at q2
      simp only [Option.some.injEq] at q2
      subst q2
      split at q3
      · rename_i hq'
        exact ⟨hq'.1.symm, hq'.2.symm⟩
      · have l2 := hi.mlt q3
        rcases Kput_inv q4 with ⟨rfl, rfl, _⟩ | ⟨_, k2⟩
        · omega
        · exact absurd rfl (hold _ _ _ k2)
    · have l1 := hi.mlt q1
      rcases Kput_inv q2 with ⟨rfl, rfl, _⟩ | ⟨_, k1⟩
      · omega
      · split at q3
        · rename_i hq'
          obtain ⟨rfl, rfl⟩ := hq'
          rw [Kput_new] at q4
          simp only [Option.some.injEq] at q4
          exact absurd q4.symm (hold _ _ _ k1)
        · have l2 := hi.mlt q3
          rcases Kput_inv q4 with ⟨rfl, rfl, _⟩ | ⟨_, k2⟩
          · omega
          · exact hi.mdis _ _ _ _ _ _ _ q1 k1 q3 k2

/-- What stands in a map is changed: memory, but for the map's own block, is as it was. -/
theorem inv_putM (hi : Inv km cx K σ w) {o1 g1 b0 : Nat} {l0 l1 : List (Value × PV)} {es : Array MapEntry} {clock : Nat} (hm : σ.mm o1 g1 = some l0) (hk : K o1 g1 = some b0)
    (hc : w'.cell? = w.cell?) (hsz : w'.heap.size = w.heap.size) (hb : Below cx.w0.heap.size w w') (hs : w'.shape? = w.shape?) (hfz : w'.frozen? = w.frozen?) (hh : ∀ k, k ≠ b0 → w'.heap[k]? = w.heap[k]?)
    (hnew : w'.heap[b0]? = some (.map es clock)) (hes : es.size = l1.length) (hr : ∀ (i : Nat) e q, es[i]? = some e → l1[i]? = some q → e.key = q.1 ∧ RepS km cx K σ w e.val q.2) :
    Inv km cx K (σ.putM o1 g1 l1) w' ∧ Ext cx K σ w K (σ.putM o1 g1 l1) w' := by
  have hst : ∀ a, Stab cx K σ w a → Stab cx K (σ.putM o1 g1 l1) w' a := by
    intro a h
    rcases h with h | ⟨q1, q2, q3⟩
    · exact .inl h
    · exact .inr ⟨q1, by rw [hsz]; exact q2, q3⟩
  have hext : Ext cx K σ w K (σ.putM o1 g1 l1) w' := ⟨fun _ _ _ h => h, fun a v _ h => by rw [hc]; exact h, fun a h _ => hst a h, fun a h => by rw [hc]; exact h⟩
  obtain ⟨bm, km1, hmap⟩ := hi.mdom _ _ _ hm
  obtain rfl : bm = b0 := by rw [hk] at km1; simpa using km1.symm
  refine ⟨⟨hi.bel.trans hb, fun o g b h => by rw [hsz]; exact hi.kb o g b h, hi.iss, fun o g x h => ?_, fun o g x c q1 q2 q3 => ?_, hi.dis, fun o g c h => (hi.bld o g c h).same (by rw [hs]), fun o g l h => ?_, fun o g l o' g' l' b q1 q2 q3 q4 => ?_⟩, hext⟩
  · obtain ⟨c, r1, r2⟩ := hi.dom o g x h
    refine ⟨c, r1, r2.len, fun i j e p he hp => ?_⟩
    obtain ⟨v, c1, c2, c3, c4⟩ := r2.cell i j e p he hp
    exact ⟨v, by rw [hc]; exact c1, c2, hext.rep c3, fun hf => hst _ (c4 hf)⟩
  · obtain ⟨⟨d, t, fr, h4⟩, h5⟩ := hi.alv o g x c q1 q2 q3
    have hne : c ≠ bm := by
      rintro rfl
      exact hmap.nocell _ _ _ h4
    exact ⟨⟨d, t, fr, by rw [hh c hne]; exact h4⟩, fun k hf => h5 k (by rw [hfz] at hf; exact hf)⟩
  · simp only [St.putM] at h
    split at h
    · rename_i hq
      obtain ⟨rfl, rfl⟩ := hq
      simp only [Option.some.injEq] at h
      subst h
      exact ⟨bm, hk, ⟨es, clock, hnew, hes, fun i e q he hq => ⟨(hr i e q he hq).1, hext.rep (hr i e q he hq).2⟩⟩⟩
    · rename_i hq
      obtain ⟨b, r1, r2⟩ := hi.mdom o g l h
      have hne : b ≠ bm := by
        rintro rfl
        exact hq (hi.mdis _ _ _ _ _ _ _ h r1 hm hk)
      exact ⟨b, r1, r2.ext hext (hh b hne)⟩
  · have e : ∀ o g l, (σ.putM o1 g1 l1).mm o g = some l → ∃ l', σ.mm o g = some l' := by
      intro o g l h
      simp only [St.putM] at h
      split at h
      · rename_i hq; obtain ⟨rfl, rfl⟩ := hq; exact ⟨_, hm⟩
      · exact ⟨_, h⟩
    obtain ⟨m1, e1⟩ := e _ _ _ q1
    obtain ⟨m2, e2⟩ := e _ _ _ q3
    exact hi.mdis _ _ _ _ _ _ _ e1 q2 e2 q4

theorem below_alloc_self (w : World) (o : Go.Obj) : Below w.heap.size w (w.alloc o) := (Below.refl _ _).alloc (Nat.le_refl _) o

theorem cell_alloc_self (w : World) (c : Array Value) (t : TypeId) (i : Nat) : (w.alloc (.cells c t)).cell? ⟨w.heap.size, i, none⟩ = c[i]? := by
  exact World.cell?_alloc_new w c t i

theorem frozen_alloc_self (w : World) (c : Array Value) (t : TypeId) (i : Nat) : (w.alloc (.cells c t)).frozen? ⟨w.heap.size, i, none⟩ = false := by
  exact World.frozen?_alloc_new w c t i

theorem heap_alloc_self (w : World) (o : Go.Obj) : (w.alloc o).heap[w.heap.size]? = some o := heap_alloc_new w o

theorem size_alloc (w : World) (o : Go.Obj) : (w.alloc o).heap.size = w.heap.size + 1 := by show (w.heap.push o).size = _; simp

/-- The cells of a value that may be laid into memory. -/
theorem rep_cells {L : Addr → Option Value} {S : Addr → Prop} {v : Value} {p : PV} (h : Rep km L S K v p) (hok : okc p = true) :
    v.cells.size = (cellsOf p).length ∧ ∀ (j : Nat) q, (cellsOf p)[j]? = some q → ∃ u, v.cells[j]? = some u ∧ u.oneCell' = true ∧ Rep km L S K u q := by
  cases h with
  | agg cs ps h1 h2 h3 =>
    refine ⟨by simpa [Value.cells, cellsOf] using h1, fun j q hq => ?_⟩
    obtain ⟨u, hu, ru⟩ := agg_get h1 h3 hq
    exact ⟨u, by simpa [Value.cells] using hu, h2 u (List.mem_of_getElem? hu), ru⟩
  | jk => simp [okc] at hok
  | tu => simp [okc] at hok
  | mp => simp [okc] at hok
  | sc v hs =>
    have hone : v.oneCell' = true := by cases v <;> first | rfl | simp [simple] at hs
    have hce : v.cells = #[v] := by cases v <;> first | rfl | simp [simple] at hs
    refine ⟨by simp [hce, cellsOf], fun j q hq => ?_⟩
    have hj : j = 0 := by have := (List.getElem?_eq_some_iff.1 hq).1; simp [cellsOf] at this; exact this
    subst hj
    simp [cellsOf] at hq
    subst hq
    exact ⟨v, by simp [hce], hone, .sc v hs⟩
  | em a =>
    refine ⟨rfl, fun j q hq => ?_⟩
    have hj : j = 0 := by have := (List.getElem?_eq_some_iff.1 hq).1; simp [cellsOf] at this; exact this
    subst hj
    simp [cellsOf] at hq
    subst hq
    exact ⟨_, rfl, rfl, .em a⟩
  | sl a n cap b off es xs us h1 h2 h3 h4 h5 h6 h7 =>
    refine ⟨rfl, fun j q hq => ?_⟩
    have hj : j = 0 := by have := (List.getElem?_eq_some_iff.1 hq).1; simp [cellsOf] at this; exact this
    subst hj
    simp [cellsOf] at hq
    subst hq
    exact ⟨_, rfl, rfl, .sl a n cap b off es xs us h1 h2 h3 h4 h5 h6 h7⟩
  | fp b off es i j' xs us h4 h5 h6 h7 =>
    refine ⟨rfl, fun j q hq => ?_⟩
    have hj : j = 0 := by have := (List.getElem?_eq_some_iff.1 hq).1; simp [cellsOf] at this; exact this
    subst hj
    simp [cellsOf] at hq
    subst hq
    exact ⟨_, rfl, rfl, .fp b off es i j' xs us h4 h5 h6 h7⟩
  | ob o g es i n cap b a h1 h2 h3 h4 =>
    refine ⟨rfl, fun j q hq => ?_⟩
    have hj : j = 0 := by have := (List.getElem?_eq_some_iff.1 hq).1; simp [cellsOf] at this; exact this
    subst hj
    simp [cellsOf] at hq
    subst hq
    exact ⟨_, rfl, rfl, .ob o g es i n cap b a h1 h2 h3 h4⟩
  | bx o g es i j' b h1 =>
    refine ⟨rfl, fun j q hq => ?_⟩
    have hj : j = 0 := by have := (List.getElem?_eq_some_iff.1 hq).1; simp [cellsOf] at this; exact this
    subst hj
    simp [cellsOf] at hq
    subst hq
    exact ⟨_, rfl, rfl, .bx o g es i j' b h1⟩
  | fn f vf vc pf pc h1 h2 h3 h4 =>
    refine ⟨rfl, fun j q hq => ?_⟩
    have hj : j = 0 := by have := (List.getElem?_eq_some_iff.1 hq).1; simp [cellsOf] at this; exact this
    subst hj
    simp [cellsOf] at hq
    subst hq
    exact ⟨_, rfl, rfl, .fn f vf vc pf pc h1 h2 h3 h4⟩
  | ifc t v p h1 =>
    refine ⟨rfl, fun j q hq => ?_⟩
    have hj : j = 0 := by have := (List.getElem?_eq_some_iff.1 hq).1; simp [cellsOf] at this; exact this
    subst hj
    simp [cellsOf] at hq
    subst hq
    exact ⟨_, rfl, rfl, .ifc t v p h1⟩

end
end Go.Proofs.YtcpgkdaicglogaaGreatDoorPv
