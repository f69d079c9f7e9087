/-
What code leaves as it was: temporaries that it doesn't write. Loops by that. No program in sight.
-/
import Derived.Test.YtcpgkdaicglogaaGreatDoorPvY
namespace Go.Proofs.YtcpgkdaicglogaaGreatDoorPv
open Go

/-- The temporaries that operations write. -/
def wrO : List POp → List Nat
  | [] => []
  | o :: r => match o.dst with | some d => d :: wrO r | none => wrO r

def wrC : PC → List Nat
  | .seq a b => wrC a ++ wrC b
  | .cond _ t e => wrC t ++ wrC e
  | .block _ b => wrC b
  | .loop b => wrC b
  | .rg _ ops => wrO ops
  | .rg2 a _ => wrO a
  | _ => []

theorem contains_app {l m : List Nat} {t : Nat} (h : (l ++ m).contains t = false) : l.contains t = false ∧ m.contains t = false := by
  simp only [List.contains_eq_mem, List.mem_append, decide_eq_false_iff_not, not_or] at h ⊢
  exact h

theorem evOs_frame {E : Ev} {t : Nat} : ∀ {ops : List POp} {fr : Fr} {σ : St} {fr' : Fr} {σ' : St}, evOs E ops fr σ = some (fr', σ') → (wrO ops).contains t = false → fr' t = fr t
  | [], fr, σ, fr', σ', h, _ => by
    simp only [evOs, Option.some.injEq, Prod.mk.injEq] at h
    rw [h.1]
  | o :: r, fr, σ, fr', σ', h, ht => by
    simp only [evOs] at h
    obtain ⟨⟨fr1, σ1⟩, h1, h2⟩ := Option.bind_eq_some_iff.1 h
    unfold ev1 at h1
    obtain ⟨⟨v, σ2⟩, h3, h4⟩ := Option.map_eq_some_iff.1 h1
    simp only [Prod.mk.injEq] at h4
    obtain ⟨rfl, rfl⟩ := h4
    cases hd : o.dst with
    | none =>
      simp only [wrO, hd] at ht
      rw [evOs_frame h2 ht, hd]; rfl
    | some d =>
      simp only [wrO, hd, List.contains_cons, Bool.or_eq_false_iff, beq_eq_false_iff_ne] at ht
      rw [evOs_frame h2 ht.2, hd]
      exact Fr.set_ne' fr v ht.1

theorem rounds_frame {f : Fr → St → Option (X × Fr × St)} {t : Nat} (hf : ∀ fr σ x fr' σ', f fr σ = some (x, fr', σ') → fr' t = fr t) : ∀ {k : Nat} {fr : Fr} {σ : St} {x : X} {fr' : Fr} {σ' : St}, rounds f k fr σ = some (x, fr', σ') → fr' t = fr t
  | 0, _, _, _, _, _, h => by simp [rounds] at h
  | k + 1, fr, σ, x, fr', σ', h => by
    simp only [rounds] at h
    obtain ⟨⟨y, fr1, σ1⟩, h1, h2⟩ := Option.bind_eq_some_iff.1 h
    have e := hf _ _ _ _ _ h1
    cases y with
    | normal => rw [rounds_frame hf h2, e]
    | exit id => simp only [Option.some.injEq, Prod.mk.injEq] at h2; rw [← h2.2.1]; exact e
    | ret => simp only [Option.some.injEq, Prod.mk.injEq] at h2; rw [← h2.2.1]; exact e

theorem evC_frame {E : Ev} {k t : Nat} : ∀ {pc : PC} {fr : Fr} {σ : St} {x : X} {fr' : Fr} {σ' : St}, evC E k pc fr σ = some (x, fr', σ') → (wrC pc).contains t = false → fr' t = fr t := by
  intro pc
  induction pc with
  | skip => intro fr σ x fr' σ' h _; simp only [evC, Option.some.injEq, Prod.mk.injEq] at h; rw [h.2.1]
  | exit id => intro fr σ x fr' σ' h _; simp only [evC, Option.some.injEq, Prod.mk.injEq] at h; rw [h.2.1]
  | ret => intro fr σ x fr' σ' h _; simp only [evC, Option.some.injEq, Prod.mk.injEq] at h; rw [h.2.1]
  | seq a b iha ihb =>
    intro fr σ x fr' σ' h ht
    obtain ⟨ha, hb⟩ := contains_app (show (wrC a ++ wrC b).contains t = false from ht)
    simp only [evC] at h
    obtain ⟨⟨y, fr1, σ1⟩, h1, h2⟩ := Option.bind_eq_some_iff.1 h
    have e := iha h1 ha
    cases y with
    | normal => rw [ihb h2 hb, e]
    | exit id => simp only [Option.some.injEq, Prod.mk.injEq] at h2; rw [← h2.2.1]; exact e
    | ret => simp only [Option.some.injEq, Prod.mk.injEq] at h2; rw [← h2.2.1]; exact e
  | cond c a b iha ihb =>
    intro fr σ x fr' σ' h ht
    obtain ⟨ha, hb⟩ := contains_app (show (wrC a ++ wrC b).contains t = false from ht)
    simp only [evC] at h
    split at h
    · exact iha h ha
    · exact ihb h hb
    · cases h
  | block id b ih =>
    intro fr σ x fr' σ' h ht
    simp only [evC] at h
    obtain ⟨⟨y, fr1, σ1⟩, h1, h2⟩ := Option.map_eq_some_iff.1 h
    have e := ih h1 ht
    cases y with
    | normal => simp only [Prod.mk.injEq] at h2; rw [← h2.2.1]; exact e
    | exit id => simp only [Prod.mk.injEq] at h2; rw [← h2.2.1]; exact e
    | ret => simp only [Prod.mk.injEq] at h2; rw [← h2.2.1]; exact e
  | loop b ih =>
    intro fr σ x fr' σ' h ht
    simp only [evC] at h
    exact rounds_frame (fun fr σ x fr' σ' h => ih h ht) h
  | rg d ops =>
    intro fr σ x fr' σ' h ht
    simp only [evC] at h
    obtain ⟨⟨fr1, σ1⟩, h1, h2⟩ := Option.map_eq_some_iff.1 h
    simp only [Prod.mk.injEq] at h2
    rw [← h2.2.1]
    exact evOs_frame h1 ht
  | rg2 a b =>
    intro fr σ x fr' σ' h ht
    simp only [evC] at h
    obtain ⟨⟨fr1, σ1⟩, h1, h2⟩ := Option.map_eq_some_iff.1 h
    simp only [Prod.mk.injEq] at h2
    rw [← h2.2.1]
    exact evOs_frame (both_some.1 h1).1 ht

section
variable {env : Nat → Option Def} {fr : Fr} {σ : St} {Q : X → Fr → St → Prop}

theorem EC_frame {pc : PC} {x : X} {fr' : Fr} {σ' : St} {t : Nat} (h : EC env pc fr σ = some (x, fr', σ')) (ht : (wrC pc).contains t = false) : fr' t = fr t :=
  let ⟨_, hn⟩ := EC_some h
  evC_frame hn ht

theorem w_frame {pc : PC} (h : Wp env pc (fun x fr' σ' => (∀ t, (wrC pc).contains t = false → fr' t = fr t) → Q x fr' σ') fr σ) : Wp env pc Q fr σ := by
  obtain ⟨x, f, s, h1, h2⟩ := h
  exact ⟨x, f, s, h1, h2 fun t ht => EC_frame h1 ht⟩

/-- A condition: both ways. -/
theorem w_condB {c : PA} {t e : PC} {b : Bool} (hc : pa fr c = .sc (.bool b)) (ht : b = true → Wp env t Q fr σ) (hf : b = false → Wp env e Q fr σ) : Wp env (.cond c t e) Q fr σ := by
  cases b with
  | true => exact w_condT hc (ht rfl)
  | false => exact w_condF hc (hf rfl)

/-- A loop, of which each round makes a number smaller; what it doesn't write stays. -/
theorem w_loopF {b : PC} (I : Nat → Fr → St → Prop)
    (hI : ∀ n fr1 σ1, I n fr1 σ1 → (∀ t, (wrC b).contains t = false → fr1 t = fr t) → Wp env b (fun x fr' σ' => match x with | .normal => ∃ m, m < n ∧ I m fr' σ' | x => Q x fr' σ') fr1 σ1) (n : Nat) (h0 : I n fr σ) : Wp env (.loop b) Q fr σ := by
  refine w_loop (fun n fr1 σ1 => I n fr1 σ1 ∧ ∀ t, (wrC b).contains t = false → fr1 t = fr t) ?_ n fr σ ⟨h0, fun _ _ => rfl⟩
  rintro n fr1 σ1 ⟨h1, h2⟩
  refine w_frame ((hI n fr1 σ1 h1 h2).mono ?_)
  intro x fr' σ' hq hf
  cases x with
  | normal =>
    obtain ⟨m, hm, hi⟩ := hq
    exact ⟨m, hm, hi, fun t ht => (hf t ht).trans (h2 t ht)⟩
  | exit id => exact hq
  | ret => exact hq

/-- A range loop: what it doesn't write stays. -/
theorem w_rangeF {id : Nat} {tc ti tn tk : Nat} {body : PC} (n : Nat) (hn : n ≤ 9223372036854775807) (J : Nat → Fr → St → Prop)
    (hd : (tc ≠ ti ∧ tc ≠ tn ∧ tk ≠ ti ∧ tk ≠ tn ∧ ti ≠ tn) ∧ (wrC body).contains ti = false ∧ (wrC body).contains tn = false)
    (hs : ∀ i fr σ v, J i fr σ → J i (fr.set tc v) σ ∧ J i (fr.set tk v) σ ∧ J i (fr.set ti v) σ) (h0 : J 0 fr σ) (hi0 : fr ti = .sc (.int .i64 0)) (hn0 : fr tn = .sc (.int .i64 n))
    (hb : ∀ i fr1 σ1, i < n → J i fr1 σ1 → fr1 ti = .sc (.int .i64 i) → (∀ t, (tc :: tk :: ti :: wrC body).contains t = false → fr1 t = fr t) → Wp env body (fun x fr' σ' => match x with | .normal => J (i + 1) fr' σ' | x => Q x fr' σ') fr1 σ1)
    (he : ∀ fr1 σ1, J n fr1 σ1 → (∀ t, (tc :: tk :: ti :: wrC body).contains t = false → fr1 t = fr t) → Q (.exit id) fr1 σ1) :
    Wp env (.loop (.seq (.rg false [⟨some tc, none, .bin .lss (.t ti) (.t tn)⟩]) (.seq (.cond (.t tc) .skip (.exit id)) (.seq body (.rg false [⟨some tk, none, .bin .add (.t ti) (.c (.int .i64 1))⟩, ⟨some ti, none, .mv (.t tk)⟩]))))) Q fr σ := by
  obtain ⟨hd, hwi, hwn⟩ := hd
  have hset : ∀ (fr1 : Fr) (d : Nat) (v : PV), (d = tc ∨ d = tk ∨ d = ti) → (∀ t, (tc :: tk :: ti :: wrC body).contains t = false → fr1 t = fr t) → ∀ t, (tc :: tk :: ti :: wrC body).contains t = false → (fr1.set d v) t = fr t := by
    intro fr1 d v hd h t ht
    have h' := h t ht
    simp only [List.contains_cons, Bool.or_eq_false_iff, beq_eq_false_iff_ne] at ht
    rw [Fr.set_ne' fr1 v (by rcases hd with rfl | rfl | rfl <;> simp [ht])]
    exact h'
  refine w_range n hn (fun i fr1 σ1 => J i fr1 σ1 ∧ ∀ t, (tc :: tk :: ti :: wrC body).contains t = false → fr1 t = fr t) hd ?_ ?_ ?_ fr σ ⟨h0, fun _ _ => rfl⟩ hi0 hn0
  · rintro i fr1 σ1 v ⟨h1, h2⟩
    obtain ⟨a, b, c⟩ := hs i fr1 σ1 v h1
    exact ⟨⟨a, hset fr1 tc v (by simp) h2⟩, ⟨b, hset fr1 tk v (by simp) h2⟩, ⟨c, hset fr1 ti v (by simp) h2⟩⟩
  · rintro i fr1 σ1 hi ⟨h1, h2⟩ hti htn
    refine w_frame ((hb i fr1 σ1 hi h1 hti h2).mono ?_)
    intro x fr' σ' hq hf
    cases x with
    | normal =>
      refine ⟨⟨hq, fun t ht => ?_⟩, by rw [hf ti hwi]; exact hti, by rw [hf tn hwn]; exact htn⟩
      have ht' := ht
      simp only [List.contains_cons, Bool.or_eq_false_iff] at ht'
      exact (hf t ht'.2.2.2).trans (h2 t ht)
    | exit id => exact hq
    | ret => exact hq
  · rintro fr1 σ1 ⟨h1, h2⟩
    exact he fr1 σ1 h1 h2
/-- A block: what holds behind it. -/
theorem w_cutB {id : Nat} {b : PC} (P : Fr → St → Prop) (h1 : Wp env b (fun x fr σ => match x with | .normal => P fr σ | .exit i => if i = id then P fr σ else Q (.exit i) fr σ | x => Q x fr σ) fr σ) (h2 : ∀ fr σ, P fr σ → Q .normal fr σ) : Wp env (.block id b) Q fr σ :=
  w_block (h1.mono fun x fr σ h => by
    cases x with
    | normal => exact h2 _ _ h
    | exit i =>
      simp only at h ⊢
      split at h
      · rename_i e; rw [if_pos e]; exact h2 _ _ h
      · rename_i e; rw [if_neg e]; exact h
    | ret => exact h)

/-- Code in pieces: what is kept of one for the next. -/
theorem w_seqC {a b : PC} (P : Fr → St → Prop) (h1 : Wp env a (fun x fr σ => x = .normal ∧ P fr σ) fr σ) (h2 : ∀ fr σ, P fr σ → Wp env b Q fr σ) : Wp env (.seq a b) Q fr σ :=
  w_seq (h1.mono fun x fr σ h => by
    obtain ⟨rfl, h⟩ := h
    exact h2 _ _ h)
theorem w_mid {a : PC} (P : Fr → St → Prop) (h1 : Wp env a (fun x fr σ => x = .normal ∧ P fr σ) fr σ) (h2 : ∀ fr σ, P fr σ → Q .normal fr σ) : Wp env a Q fr σ :=
  h1.mono fun x fr σ h => by
    obtain ⟨rfl, h⟩ := h
    exact h2 _ _ h
theorem set_swap (fr : Fr) {d e : Nat} (h : d ≠ e) (u v : PV) : (fr.set d u).set e v = (fr.set e v).set d u := by
  funext t
  simp only [Fr.set]
  by_cases h1 : t = e
  · subst h1; simp [Ne.symm h]
  · simp [h1]
end

end Go.Proofs.YtcpgkdaicglogaaGreatDoorPv
