/-
Regions whose order is drawn.
-/
import Derived.Test.YtcpgkdaicglogaaGreatDoorPvS
import Derived.Test.YtcpgkdaicglogaaGreatDoorPvU
namespace Go.Proofs.YtcpgkdaicglogaaGreatDoorPv
open Go Go.RowKit

section
variable {km : Km} {P : Program} {A : Ann} {cx : Cx km} {K : Nat → Nat → Option Nat} {σ σ' : St} {w : World} {E : Ev} {s : Nat} {fr fr' : Fr} {a : Act} {nt : Nat} {D : List Deferred} {ops : Array Oper} {Q : Exit → Act → World → Prop} {pr : List (List Nat)}

def Bef (ops : Array Oper) (pr : List (List Nat)) (y x : Nat × POp) : Prop := ((pr.getD x.1 []).contains y.1 = true ∨ indep y.2 x.2 = true) ∧ x.1 ∉ direct ops y.1

structure AnyI (P : Program) (A : Ann) (nt : Nat) (ops : Array Oper) (pr : List (List Nat)) (R : List (Nat × POp)) (listed : Array Bool) : Prop where
  size : listed.size = ops.size
  inR : ∀ i, i < ops.size → (listed.getD i false = false ↔ ∃ p, (i, p) ∈ R)
  pw : R.Pairwise (Bef ops pr)
  irr : ∀ x ∈ R, x.1 ∉ direct ops x.1
  nd : (R.map (·.1)).Nodup
  comp : ∀ x ∈ R, ∃ o, ops[x.1]? = some o ∧ compOp P A nt ops o = some x.2
  lc : ∀ i, listed.getD i false = true → ∀ j ∈ pr.getD i [], listed.getD j false = true

theorem direct_mem {i k : Nat} {o : Oper} (ho : ops[i]? = some o) : k ∈ direct ops i ↔ ∃ e ∈ o.after, Region.binds .any e = true ∧ e.on = k := by
  simp only [direct, ho, List.mem_map, List.mem_filter]
  constructor
  · rintro ⟨e, ⟨h1, h2⟩, h3⟩; exact ⟨e, by simpa using h1, h2, h3⟩
  · rintro ⟨e, h1, h2, h3⟩; exact ⟨e, ⟨by simpa using h1, h2⟩, h3⟩

theorem closed_of_ready (hpo : predsOk ops pr = true) {listed : Array Bool} {i : Nat} (hi : i < ops.size) (hd : ∀ k ∈ direct ops i, listed.getD k false = true) (lc : ∀ i, listed.getD i false = true → ∀ j ∈ pr.getD i [], listed.getD j false = true) :
    ∀ j ∈ pr.getD i [], listed.getD j false = true := by
  intro j hj
  have h1 := List.all_eq_true.1 hpo i (by simpa using hi)
  have h2 := List.all_eq_true.1 h1 j hj
  obtain ⟨k, hk, h3⟩ := List.any_eq_true.1 h2
  simp only [Bool.or_eq_true, beq_iff_eq] at h3
  rcases h3 with rfl | h3
  · exact hd k hk
  · exact lc k (hd k hk) j (by simpa using h3)

theorem inv_fresh (hi : Inv km cx K σ w) : Fresh σ := by
  intro o g h
  obtain ⟨x, hx⟩ := Option.isSome_iff_exists.1 h
  obtain ⟨b, hb, _⟩ := hi.dom o g x hx
  exact hi.iss o g b hb

theorem getD_tf {listed : Array Bool} {i : Nat} (h : listed.getD i true = false) : i < listed.size ∧ listed.getD i false = false := by
  rw [Array.getD_eq_getD_getElem?] at h ⊢
  cases hl : listed[i]? with
  | none => rw [hl] at h; cases h
  | some b => rw [hl] at h; exact ⟨(Array.getElem?_eq_some_iff.1 hl).1, h⟩

theorem getD_ft {listed : Array Bool} {i : Nat} (hi : i < listed.size) (h : listed.getD i false = false) : listed.getD i true = false := by
  rw [Array.getD_eq_getD_getElem?] at h ⊢
  rw [Array.getElem?_eq_getElem hi] at h ⊢
  exact h

theorem getD_set {listed : Array Bool} {i k : Nat} (hi : i < listed.size) : (listed.setIfInBounds i true).getD k false = if k = i then true else listed.getD k false := by
  by_cases h : k = i
  · subst h; simp [hi]
  · rw [if_neg h]
    simp [Array.getElem?_setIfInBounds_ne (Ne.symm h)]

theorem any_sound (hE : SoundE km P E) (hA : LinkOk km A) (hpo : predsOk ops pr = true) (hb : ∀ (i : Nat) o, ops[i]? = some o → ∀ e ∈ o.after, e.on < ops.size) :
    ∀ (n : Nat) (R : List (Nat × POp)) (listed : Array Bool) (fr : Fr) (σ : St) (a : Act) (w : World) (K : Nat → Nat → Option Nat), R.length = n → AnyI P A nt ops pr R listed → Ok km cx nt D K fr σ a w → evOs E (R.map (·.2)) fr σ = some (fr', σ') →
      Then km cx nt D K σ w fr' σ' (Q .normal) → wpAny P .any ops Q n listed a w
  | 0, R, listed, fr, σ, a, w, K, hn, hI, h, he, hq => by
    have hR : R = [] := List.eq_nil_of_length_eq_zero hn
    subst hR
    simp only [List.map_nil, evOs, Option.some.injEq, Prod.mk.injEq] at he
    obtain ⟨rfl, rfl⟩ := he
    refine ⟨?_, hq a w K h Ext.refl⟩
    cases hr : Region.ready .any ops listed with
    | nil => rfl
    | cons j r =>
      have hj : j ∈ Region.ready .any ops listed := by rw [hr]; simp
      obtain ⟨h1, o, ho, _⟩ := mem_ready.1 hj
      have hlt := (Array.getElem?_eq_some_iff.1 ho).1
      obtain ⟨p, hp⟩ := (hI.inR j hlt).1 (getD_tf h1).2
      cases hp
  | n + 1, R, listed, fr, σ, a, w, K, hn, hI, h, he, hq => by
    refine ⟨fun hr => ?_, fun i hi => ?_⟩
    · exfalso
      cases R with
      | nil => simp at hn
      | cons x R =>
        obtain ⟨o, ho, _⟩ := hI.comp x (by simp)
        have hlt := (Array.getElem?_eq_some_iff.1 ho).1
        have hmem : x.1 ∈ Region.ready .any ops listed := by
          refine mem_ready.2 ⟨getD_ft (by rw [hI.size]; exact hlt) ((hI.inR x.1 hlt).2 ⟨x.2, by simp⟩), o, ho, fun e he1 hbd => ?_⟩
          have hdir : e.on ∈ direct ops x.1 := (direct_mem ho).2 ⟨e, he1, hbd, rfl⟩
          cases hl : listed.getD e.on false with
          | true => rfl
          | false =>
            exfalso
            obtain ⟨p, hp⟩ := (hI.inR e.on (hb _ o ho e he1)).1 hl
            rcases List.mem_cons.1 hp with rfl | hp
            · exact hI.irr _ (by simp) hdir
            · exact ((List.pairwise_cons.1 hI.pw).1 _ hp).2 hdir
        rw [hr] at hmem
        cases hmem
    · obtain ⟨h1, o, ho, hall⟩ := mem_ready.1 hi
      have hlt := (Array.getElem?_eq_some_iff.1 ho).1
      have hls : i < listed.size := by rw [hI.size]; exact hlt
      obtain ⟨p, hp⟩ := (hI.inR i hlt).1 (getD_tf h1).2
      obtain ⟨pre, post, rfl⟩ := List.append_of_mem hp
      have hcl := closed_of_ready (i := i) hpo hlt (listed := listed) (fun k hk => by
        obtain ⟨e, he1, he2, rfl⟩ := (direct_mem ho).1 hk
        exact hall e he1 he2) hI.lc
      have hnd := hI.nd
      simp only [List.map_append, List.map_cons] at hnd
      obtain ⟨n1, n2, n3⟩ := List.nodup_append.1 hnd
      have n2' := List.nodup_cons.1 n2
      have hnotin : ∀ q, (i, q) ∉ pre ++ post := by
        intro q hq
        rcases List.mem_append.1 hq with hq | hq
        · exact n3 i (List.mem_map.2 ⟨_, hq, rfl⟩) i (by simp) rfl
        · exact n2'.1 (List.mem_map.2 ⟨_, hq, rfl⟩)
      have hind : ∀ y ∈ pre, indep y.2 p = true := by
        intro y hy
        have hpw := (List.pairwise_append.1 hI.pw).2.2 y hy (i, p) (by simp)
        rcases hpw.1 with hc | hc
        · exfalso
          have hly := hcl y.1 (by simpa using hc)
          obtain ⟨oy, hoy, _⟩ := hI.comp y (by simp [hy])
          have := (hI.inR y.1 (Array.getElem?_eq_some_iff.1 hoy).1).2 ⟨y.2, by simp [hy]⟩
          rw [this] at hly; cases hly
        · exact hc
      simp only [List.map_append, List.map_cons] at he
      have he := front (pre.map (·.2)) (post.map (·.2)) fr σ _ (fun q hq => by
        obtain ⟨y, hy, rfl⟩ := List.mem_map.1 hq
        exact hind y hy) (inv_fresh h.inv) he
      simp only [evOs] at he
      obtain ⟨⟨fr1, σ1⟩, he1, he⟩ := Option.bind_eq_some_iff.1 he
      obtain ⟨o', ho', hco⟩ := hI.comp (i, p) (by simp)
      have hsub : (pre ++ post).Sublist (pre ++ (i, p) :: post) := List.Sublist.append (List.Sublist.refl pre) (List.sublist_cons_self _ _)
      refine op1 hE hA h ho' hco he1 fun a1 w1 K1 g1 g2 => ?_
      refine any_sound hE hA hpo hb n (pre ++ post) _ fr1 σ1 a1 w1 K1 (by simp at hn ⊢; omega) ⟨by simp [hI.size], fun k hk => ?_, hI.pw.sublist hsub, fun x hx => hI.irr x (hsub.subset hx), hI.nd.sublist (hsub.map _), fun x hx => hI.comp x (hsub.subset hx), fun k hk j hj => ?_⟩ g1 (by simpa using he) (hq.mono g2 fun _ _ h => h)
      · rw [getD_set hls]
        split
        · rename_i hki
          subst hki
          constructor
          · intro h; cases h
          · rintro ⟨q, hq⟩; exact absurd hq (hnotin q)
        · rename_i hki
          rw [hI.inR k hk]
          constructor
          · rintro ⟨q, hq⟩
            refine ⟨q, ?_⟩
            rcases List.mem_append.1 hq with hq | hq
            · exact List.mem_append_left _ hq
            · rcases List.mem_cons.1 hq with hq | hq
              · simp only [Prod.mk.injEq] at hq; exact absurd hq.1 hki
              · exact List.mem_append_right _ hq
          · rintro ⟨q, hq⟩; exact ⟨q, hsub.subset hq⟩
      · rw [getD_set hls] at hk ⊢
        split
        · rfl
        · split at hk
          · rename_i hki; subst hki; exact hcl j hj
          · exact hI.lc k hk j hj

theorem pairs_spec {ps : List POp} : ∀ (l : List Nat), pairsOk ops ps pr l = true → (l.map fun i => (i, ps.getD i default)).Pairwise (Bef ops pr) ∧ (∀ i ∈ l, i ∉ direct ops i) ∧ l.Nodup
  | [], _ => ⟨.nil, fun _ h => (by cases h), .nil⟩
  | i :: r, h => by
    simp only [pairsOk, Bool.and_eq_true, Bool.not_eq_true', List.contains_eq_mem, decide_eq_false_iff_not] at h
    obtain ⟨⟨⟨h1, h0⟩, h2⟩, h3⟩ := h
    obtain ⟨g1, g2, g3⟩ := pairs_spec r h3
    refine ⟨?_, fun k hk => ?_, List.nodup_cons.2 ⟨h0, g3⟩⟩
    · simp only [List.map_cons, List.pairwise_cons]
      refine ⟨fun x hx => ?_, g1⟩
      obtain ⟨j, hj, rfl⟩ := List.mem_map.1 hx
      have := List.all_eq_true.1 h2 j hj
      simp only [Bool.and_eq_true, Bool.or_eq_true, Bool.not_eq_true', decide_eq_false_iff_not, decide_eq_true_eq] at this
      exact ⟨this.1.imp (fun h => by simpa using h) id, this.2⟩
    · rcases List.mem_cons.1 hk with rfl | hk
      · exact h1
      · exact g2 k hk

theorem drawn_sound (hE : SoundE km P E) (hA : LinkOk km A) (hm : P.follows .mixedOrders = true) {id : Nat} {ps qs : List POp} (h : Ok km cx nt D K fr σ a w) (hc : ops.toList.mapM (compOp P A nt ops) = some ps) (hd : drawn ops ps = some qs)
    (he : evOs E qs fr σ = some (fr', σ')) (hq : Then km cx nt D K σ w fr' σ' (Q .normal)) : (Code.region id ops true).wp P Q a w := by
  unfold drawn at hd
  simp only at hd
  split at hd
  · rename_i hall
    simp only [Bool.and_eq_true, beq_iff_eq] at hall
    obtain ⟨⟨⟨⟨⟨c1, c2⟩, c3⟩, c4⟩, c5⟩, c6⟩ := hall
    simp only [Option.some.injEq] at hd
    subst hd
    generalize hl : ordOf ps (preds ops) ps.length [] (List.range ps.length) = l at *
    obtain ⟨m1, m2⟩ := mapM_get hc
    have hsz : ps.length = ops.size := by simpa using m1
    obtain ⟨g1, g2, hnd⟩ := pairs_spec l c5
    have hin : ∀ i, i < ps.length → i ∈ l := fun i hi => by
      have := List.all_eq_true.1 c3 i (by simpa using hi)
      simpa using this
    have hlt : ∀ i ∈ l, i < ps.length := fun i hi => by simpa using List.all_eq_true.1 c4 i hi
    refine wp_region_any hm ?_
    have hx : Ok km cx nt D K fr σ a { w with drawn := w.drawn + 1 } := by
      obtain ⟨q1, q2⟩ := inv_grow h.inv (w' := w.drew) (Below.refl _ _).drew
      exact ⟨h.fr.ext q2, q1, h.size, h.dfs⟩
    have hxe : Ext cx K σ w K σ { w with drawn := w.drawn + 1 } := (inv_grow h.inv (w' := w.drew) (Below.refl _ _).drew).2
    refine any_sound hE hA c1 (fun i o ho e he1 => ?_) ops.size (l.map fun i => (i, ps.getD i default)) _ fr σ a _ K (by rw [List.length_map, c2, hsz]) ⟨by simp, fun i hi => ?_, g1, fun x hx => ?_, ?_, fun x hx => ?_, fun i hi => ?_⟩ hx (by rw [List.map_map]; exact he) (hq.mono hxe fun _ _ h => h)
    · have := List.all_eq_true.1 c6 o (by
        have := Array.mem_of_getElem? ho
        simpa using this)
      have := List.all_eq_true.1 this e (by simpa using he1)
      simpa using this
    · constructor
      · intro _; exact ⟨_, List.mem_map.2 ⟨i, hin i (by omega), rfl⟩⟩
      · intro _; simp [hi]
    · obtain ⟨i, hi, rfl⟩ := List.mem_map.1 hx
      exact g2 i hi
    · simpa [List.map_map, Function.comp_def] using hnd
    · obtain ⟨i, hi, rfl⟩ := List.mem_map.1 hx
      have hi' := hlt i hi
      obtain ⟨o, ho, hco⟩ := mapM_get' hc (List.getElem?_eq_getElem hi')
      refine ⟨o, by simpa using ho, ?_⟩
      simpa [List.getD, List.getElem?_eq_getElem hi'] using hco
    · rw [Array.getD_eq_getD_getElem?] at hi
      by_cases hi' : i < ops.size
      · simp [hi'] at hi
      · simp [hi'] at hi
  · cases hd

/-! Two orders, of which any order is like one. -/
structure AnyJ (P : Program) (A : Ann) (nt : Nat) (ops : Array Oper) (pr : List (List Nat)) (B : Nat × POp → Nat × POp → Prop) (R : List (Nat × POp)) (listed : Array Bool) : Prop where
  size : listed.size = ops.size
  inR : ∀ i, i < ops.size → (listed.getD i false = false ↔ ∃ p, (i, p) ∈ R)
  pw : R.Pairwise B
  irr : ∀ x ∈ R, x.1 ∉ direct ops x.1
  nd : (R.map (·.1)).Nodup
  comp : ∀ x ∈ R, ∃ o, ops[x.1]? = some o ∧ compOp P A nt ops o = some x.2
  lc : ∀ i, listed.getD i false = true → ∀ j ∈ pr.getD i [], listed.getD j false = true

theorem AnyJ.toI {R : List (Nat × POp)} {listed : Array Bool} (h : AnyJ P A nt ops pr (Bef ops pr) R listed) : AnyI P A nt ops pr R listed := ⟨h.size, h.inR, h.pw, h.irr, h.nd, h.comp, h.lc⟩

theorem AnyJ.rest {B : Nat × POp → Nat × POp → Prop} {pre post : List (Nat × POp)} {i : Nat} {p : POp} {listed : Array Bool} (hI : AnyJ P A nt ops pr B (pre ++ (i, p) :: post) listed) (hls : i < listed.size) (hcl : ∀ j ∈ pr.getD i [], listed.getD j false = true) :
    AnyJ P A nt ops pr B (pre ++ post) (listed.setIfInBounds i true) ∧ ∀ q, (i, q) ∉ pre ++ post := by
  have hnd := hI.nd
  simp only [List.map_append, List.map_cons] at hnd
  obtain ⟨n1, n2, n3⟩ := List.nodup_append.1 hnd
  have n2' := List.nodup_cons.1 n2
  have hnotin : ∀ q, (i, q) ∉ pre ++ post := by
    intro q hq
    rcases List.mem_append.1 hq with hq | hq
    · exact n3 i (List.mem_map.2 ⟨_, hq, rfl⟩) i (by simp) rfl
    · exact n2'.1 (List.mem_map.2 ⟨_, hq, rfl⟩)
  have hsub : (pre ++ post).Sublist (pre ++ (i, p) :: post) := List.Sublist.append (List.Sublist.refl pre) (List.sublist_cons_self _ _)
  refine ⟨⟨by simp [hI.size], fun k hk => ?_, hI.pw.sublist hsub, fun x hx => hI.irr x (hsub.subset hx), hI.nd.sublist (hsub.map _), fun x hx => hI.comp x (hsub.subset hx), fun k hk j hj => ?_⟩, hnotin⟩
  · rw [getD_set hls]
    split
    · rename_i hki
      subst hki
      constructor
      · intro h; cases h
      · rintro ⟨q, hq⟩; exact absurd hq (hnotin q)
    · rename_i hki
      rw [hI.inR k hk]
      constructor
      · rintro ⟨q, hq⟩
        refine ⟨q, ?_⟩
        rcases List.mem_append.1 hq with hq | hq
        · exact List.mem_append_left _ hq
        · rcases List.mem_cons.1 hq with hq | hq
          · simp only [Prod.mk.injEq] at hq; exact absurd hq.1 hki
          · exact List.mem_append_right _ hq
      · rintro ⟨q, hq⟩; exact ⟨q, hsub.subset hq⟩
  · rw [getD_set hls] at hk ⊢
    split
    · rfl
    · split at hk
      · rename_i hki; subst hki; exact hcl j hj
      · exact hI.lc k hk j hj

def Bef2 (ops : Array Oper) (pr : List (List Nat)) (U : List Nat) (y : Nat) (a b : Nat × POp) : Prop := (((pr.getD b.1 []).contains a.1 = true ∨ indep a.2 b.2 = true) ∨ (a.1 ∈ U ∧ b.1 = y)) ∧ b.1 ∉ direct ops a.1

/-- It comes first, if what lies ahead is free of it. -/
theorem AnyJ.first {B : Nat × POp → Nat × POp → Prop} {pre post : List (Nat × POp)} {i : Nat} {p : POp} {listed : Array Bool} {R : Fr × St} (hI : AnyJ P A nt ops pr B (pre ++ (i, p) :: post) listed) (hcl : ∀ j ∈ pr.getD i [], listed.getD j false = true)
    (hB : ∀ y ∈ pre, B y (i, p) → (pr.getD i []).contains y.1 = true ∨ indep y.2 p = true) (hF : Fresh σ) (he : evOs E ((pre ++ (i, p) :: post).map (·.2)) fr σ = some R) : evOs E (p :: (pre ++ post).map (·.2)) fr σ = some R := by
  simp only [List.map_append, List.map_cons] at he ⊢
  refine front (pre.map (·.2)) (post.map (·.2)) fr σ R (fun q hq => ?_) hF he
  obtain ⟨y, hy, rfl⟩ := List.mem_map.1 hq
  rcases hB y hy ((List.pairwise_append.1 hI.pw).2.2 y hy (i, p) (by simp)) with hc | hc
  · exfalso
    have hly := hcl y.1 (by simpa using hc)
    obtain ⟨oy, hoy, _⟩ := hI.comp y (by simp [hy])
    have := (hI.inR y.1 (Array.getElem?_eq_some_iff.1 hoy).1).2 ⟨y.2, by simp [hy]⟩
    rw [this] at hly; cases hly
  · exact hc

theorem any_sound2 (hE : SoundE km P E) (hA : LinkOk km A) (hpo : predsOk ops pr = true) (hb : ∀ (i : Nat) o, ops[i]? = some o → ∀ e ∈ o.after, e.on < ops.size) {x y : Nat} (hxy : x ≠ y) :
    ∀ (n : Nat) (R S : List (Nat × POp)) (listed : Array Bool) (fr : Fr) (σ : St) (a : Act) (w : World) (K : Nat → Nat → Option Nat), R.length = n → S.length = n → AnyJ P A nt ops pr (Bef2 ops pr [x] y) R listed → AnyJ P A nt ops pr (Bef2 ops pr (y :: pr.getD y []) x) S listed → Ok km cx nt D K fr σ a w →
      evOs E (R.map (·.2)) fr σ = some (fr', σ') → evOs E (S.map (·.2)) fr σ = some (fr', σ') →
      Then km cx nt D K σ w fr' σ' (Q .normal) → wpAny P .any ops Q n listed a w
  | 0, R, S, listed, fr, σ, a, w, K, hn, hn2, hI, hJ, h, he, he2, hq => by
    have hR : R = [] := List.eq_nil_of_length_eq_zero hn
    subst hR
    simp only [List.map_nil, evOs, Option.some.injEq, Prod.mk.injEq] at he
    obtain ⟨rfl, rfl⟩ := he
    refine ⟨?_, hq a w K h Ext.refl⟩
    cases hr : Region.ready .any ops listed with
    | nil => rfl
    | cons j r =>
      have hj : j ∈ Region.ready .any ops listed := by rw [hr]; simp
      obtain ⟨h1, o, ho, _⟩ := mem_ready.1 hj
      have hlt := (Array.getElem?_eq_some_iff.1 ho).1
      obtain ⟨p, hp⟩ := (hI.inR j hlt).1 (getD_tf h1).2
      cases hp
  | n + 1, R, S, listed, fr, σ, a, w, K, hn, hn2, hI, hJ, h, he, he2, hq => by
    refine ⟨fun hr => ?_, fun i hi => ?_⟩
    · exfalso
      cases R with
      | nil => simp at hn
      | cons z R =>
        obtain ⟨o, ho, _⟩ := hI.comp z (by simp)
        have hlt := (Array.getElem?_eq_some_iff.1 ho).1
        have hmem : z.1 ∈ Region.ready .any ops listed := by
          refine mem_ready.2 ⟨getD_ft (by rw [hI.size]; exact hlt) ((hI.inR z.1 hlt).2 ⟨z.2, by simp⟩), o, ho, fun e he1 hbd => ?_⟩
          have hdir : e.on ∈ direct ops z.1 := (direct_mem ho).2 ⟨e, he1, hbd, rfl⟩
          cases hl : listed.getD e.on false with
          | true => rfl
          | false =>
            exfalso
            obtain ⟨p, hp⟩ := (hI.inR e.on (hb _ o ho e he1)).1 hl
            rcases List.mem_cons.1 hp with rfl | hp
            · exact hI.irr _ (by simp) hdir
            · exact ((List.pairwise_cons.1 hI.pw).1 _ hp).2 hdir
        rw [hr] at hmem
        cases hmem
    · obtain ⟨h1, o, ho, hall⟩ := mem_ready.1 hi
      have hlt := (Array.getElem?_eq_some_iff.1 ho).1
      have hls : i < listed.size := by rw [hI.size]; exact hlt
      obtain ⟨p, hp⟩ := (hI.inR i hlt).1 (getD_tf h1).2
      obtain ⟨p', hp'⟩ := (hJ.inR i hlt).1 (getD_tf h1).2
      obtain rfl : p' = p := by
        obtain ⟨o1, ho1, hc1⟩ := hI.comp _ hp
        obtain ⟨o2, ho2, hc2⟩ := hJ.comp _ hp'
        simp only at ho1 ho2 hc1 hc2
        rw [ho1] at ho2
        simp only [Option.some.injEq] at ho2
        subst ho2
        rw [hc1] at hc2
        simpa using hc2.symm
      obtain ⟨pre, post, rfl⟩ := List.append_of_mem hp
      obtain ⟨pre2, post2, rfl⟩ := List.append_of_mem hp'
      have hcl := closed_of_ready (i := i) hpo hlt (listed := listed) (fun k hk => by
        obtain ⟨e, he1, he2, rfl⟩ := (direct_mem ho).1 hk
        exact hall e he1 he2) hI.lc
      obtain ⟨r1, q1⟩ := hI.rest hls hcl
      obtain ⟨r2, q2⟩ := hJ.rest hls hcl
      obtain ⟨o', ho', hco⟩ := hI.comp (i, p') (by simp)
      have hF := inv_fresh h.inv
      have f1 : i ≠ y → evOs E (p' :: (pre ++ post).map (·.2)) fr σ = some (fr', σ') := fun hne => hI.first hcl (fun z _ hz => hz.1.resolve_right fun hh => hne hh.2) hF he
      have f2 : i ≠ x → evOs E (p' :: (pre2 ++ post2).map (·.2)) fr σ = some (fr', σ') := fun hne => hJ.first hcl (fun z _ hz => hz.1.resolve_right fun hh => hne hh.2) hF he2
      have hlen : (pre ++ post).length = n := by simp at hn ⊢; omega
      have hlen2 : (pre2 ++ post2).length = n := by simp at hn2 ⊢; omega
      by_cases hix : i = x
      · have g := f1 (by rw [hix]; exact hxy)
        simp only [evOs] at g
        obtain ⟨⟨fr1, σ1⟩, he1, g⟩ := Option.bind_eq_some_iff.1 g
        refine op1 hE hA h ho' hco he1 fun a1 w1 K1 g1 g2 => ?_
        refine any_sound hE hA hpo hb n (pre ++ post) _ fr1 σ1 a1 w1 K1 hlen (AnyJ.toI ⟨r1.size, r1.inR, ?_, r1.irr, r1.nd, r1.comp, r1.lc⟩) g1 g (hq.mono g2 fun _ _ h => h)
        refine List.Pairwise.imp_of_mem ?_ r1.pw
        intro u v hu hv huv
        refine ⟨huv.1.resolve_right fun hh => ?_, huv.2⟩
        refine q1 u.2 ?_
        rw [hix, ← List.mem_singleton.1 hh.1]
        exact hu
      · by_cases hiy : i = y
        · have g := f2 hix
          simp only [evOs] at g
          obtain ⟨⟨fr1, σ1⟩, he1, g⟩ := Option.bind_eq_some_iff.1 g
          refine op1 hE hA h ho' hco he1 fun a1 w1 K1 g1 g2 => ?_
          refine any_sound hE hA hpo hb n (pre2 ++ post2) _ fr1 σ1 a1 w1 K1 hlen2 (AnyJ.toI ⟨r2.size, r2.inR, ?_, r2.irr, r2.nd, r2.comp, r2.lc⟩) g1 g (hq.mono g2 fun _ _ h => h)
          refine List.Pairwise.imp_of_mem ?_ r2.pw
          intro u v hu hv huv
          refine ⟨huv.1.resolve_right fun hh => ?_, huv.2⟩
          rcases List.mem_cons.1 hh.1 with hu1 | hu1
          · refine q2 u.2 ?_
            rw [hiy, ← hu1]
            exact hu
          · have hmem : u ∈ pre2 ++ (i, p') :: post2 := by
              rcases List.mem_append.1 hu with h | h
              · exact List.mem_append.2 (.inl h)
              · exact List.mem_append.2 (.inr (List.mem_cons_of_mem _ h))
            obtain ⟨o3, ho3, _⟩ := hJ.comp u hmem
            have hf := (hJ.inR u.1 (Array.getElem?_eq_some_iff.1 ho3).1).2 ⟨u.2, hmem⟩
            have ht := hcl u.1 (by rw [hiy]; exact hu1)
            rw [hf] at ht
            cases ht
        · have g := f1 hiy
          have g' := f2 hix
          simp only [evOs] at g g'
          obtain ⟨⟨fr1, σ1⟩, he1, g⟩ := Option.bind_eq_some_iff.1 g
          rw [he1] at g'
          simp only [Option.bind_some] at g'
          refine op1 hE hA h ho' hco he1 fun a1 w1 K1 g1 g2 => ?_
          exact any_sound2 hE hA hpo hb hxy n (pre ++ post) (pre2 ++ post2) _ fr1 σ1 a1 w1 K1 hlen hlen2 r1 r2 g1 g g' (hq.mono g2 fun _ _ h => h)

theorem pairs2_spec {ps : List POp} {U : List Nat} {y : Nat} : ∀ (l : List Nat), pairsOk2 ops ps pr U y l = true → (l.map fun i => (i, ps.getD i default)).Pairwise (Bef2 ops pr U y) ∧ (∀ i ∈ l, i ∉ direct ops i) ∧ l.Nodup
  | [], _ => ⟨.nil, fun _ h => (by cases h), .nil⟩
  | i :: r, h => by
    simp only [pairsOk2, Bool.and_eq_true, Bool.not_eq_true', List.contains_eq_mem, decide_eq_false_iff_not] at h
    obtain ⟨⟨⟨h1, h0⟩, h2⟩, h3⟩ := h
    obtain ⟨g1, g2, g3⟩ := pairs2_spec r h3
    refine ⟨?_, fun k hk => ?_, List.nodup_cons.2 ⟨h0, g3⟩⟩
    · simp only [List.map_cons, List.pairwise_cons]
      refine ⟨fun z hz => ?_, g1⟩
      obtain ⟨j, hj, rfl⟩ := List.mem_map.1 hz
      have := List.all_eq_true.1 h2 j hj
      simp only [Bool.and_eq_true, Bool.or_eq_true, Bool.not_eq_true', decide_eq_false_iff_not, decide_eq_true_eq, beq_iff_eq] at this
      exact ⟨this.1.imp (fun h => h.imp (fun h => by simpa using h) id) id, this.2⟩
    · rcases List.mem_cons.1 hk with rfl | hk
      · exact h1
      · exact g2 k hk

theorem ordJ {ps : List POp} {l U : List Nat} {y : Nat} (hc : ops.toList.mapM (compOp P A nt ops) = some ps) (ho : ordOk ops ps l = true) (hp : pairsOk2 ops ps pr U y l = true) :
    AnyJ P A nt ops pr (Bef2 ops pr U y) (l.map fun i => (i, ps.getD i default)) (Array.replicate ops.size false) ∧ (l.map fun i => (i, ps.getD i default)).length = ops.size := by
  unfold ordOk at ho
  simp only [Bool.and_eq_true, beq_iff_eq] at ho
  obtain ⟨⟨c2, c3⟩, c4⟩ := ho
  obtain ⟨m1, m2⟩ := mapM_get hc
  have hsz : ps.length = ops.size := by simpa using m1
  obtain ⟨g1, g2, hnd⟩ := pairs2_spec l hp
  have hin : ∀ i, i < ps.length → i ∈ l := fun i hi => by
    have := List.all_eq_true.1 c3 i (by simpa using hi)
    simpa using this
  have hlt : ∀ i ∈ l, i < ps.length := fun i hi => by simpa using List.all_eq_true.1 c4 i hi
  refine ⟨⟨by simp, fun i hi => ?_, g1, fun x hx => ?_, ?_, fun x hx => ?_, fun i hi => ?_⟩, by rw [List.length_map, c2, hsz]⟩
  · constructor
    · intro _; exact ⟨_, List.mem_map.2 ⟨i, hin i (by omega), rfl⟩⟩
    · intro _; simp [hi]
  · obtain ⟨i, hi, rfl⟩ := List.mem_map.1 hx
    exact g2 i hi
  · simpa [List.map_map, Function.comp_def] using hnd
  · obtain ⟨i, hi, rfl⟩ := List.mem_map.1 hx
    have hi' := hlt i hi
    obtain ⟨o, ho, hco⟩ := mapM_get' hc (List.getElem?_eq_getElem hi')
    refine ⟨o, by simpa using ho, ?_⟩
    simpa [List.getD, List.getElem?_eq_getElem hi'] using hco
  · rw [Array.getD_eq_getD_getElem?] at hi
    by_cases hi' : i < ops.size
    · simp [hi'] at hi
    · simp [hi'] at hi

theorem drawn2_sound (hE : SoundE km P E) (hA : LinkOk km A) (hm : P.follows .mixedOrders = true) {id : Nat} {ps : List POp} {q : List POp × List POp} (h : Ok km cx nt D K fr σ a w) (hc : ops.toList.mapM (compOp P A nt ops) = some ps) (hd : drawn2 ops ps = some q)
    (he : evOs E q.1 fr σ = some (fr', σ')) (he2 : evOs E q.2 fr σ = some (fr', σ')) (hq : Then km cx nt D K σ w fr' σ' (Q .normal)) : (Code.region id ops true).wp P Q a w := by
  unfold drawn2 at hd
  simp only at hd
  obtain ⟨⟨x, y⟩, _, hd⟩ := Option.bind_eq_some_iff.1 hd
  simp only at hd
  split at hd
  · rename_i hall
    simp only [Bool.and_eq_true, bne_iff_ne, ne_eq] at hall
    obtain ⟨⟨⟨⟨⟨⟨c1, c2⟩, c3⟩, c4⟩, c5⟩, c6⟩, c7⟩ := hall
    simp only [Option.some.injEq] at hd
    subst hd
    obtain ⟨j1, k1⟩ := ordJ (P := P) (A := A) (nt := nt) hc c2 c4
    obtain ⟨j2, k2⟩ := ordJ (P := P) (A := A) (nt := nt) hc c3 c5
    refine wp_region_any hm ?_
    have hx : Ok km cx nt D K fr σ a { w with drawn := w.drawn + 1 } := by
      obtain ⟨q1, q2⟩ := inv_grow h.inv (w' := w.drew) (Below.refl _ _).drew
      exact ⟨h.fr.ext q2, q1, h.size, h.dfs⟩
    have hxe : Ext cx K σ w K σ { w with drawn := w.drawn + 1 } := (inv_grow h.inv (w' := w.drew) (Below.refl _ _).drew).2
    exact any_sound2 hE hA c1 (fun i o ho e he1 => by
      have := List.all_eq_true.1 c7 o (by
        have := Array.mem_of_getElem? ho
        simpa using this)
      have := List.all_eq_true.1 this e (by simpa using he1)
      simpa using this) c6 ops.size _ _ _ fr σ a _ K k1 k2 j1 j2 hx (by rw [List.map_map]; exact he) (by rw [List.map_map]; exact he2) (hq.mono hxe fun _ _ h => h)
  · cases hd

end
end Go.Proofs.YtcpgkdaicglogaaGreatDoorPv
