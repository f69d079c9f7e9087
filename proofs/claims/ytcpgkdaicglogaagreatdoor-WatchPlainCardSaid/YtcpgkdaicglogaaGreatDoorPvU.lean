/-
Two operations change places; one comes first.
-/
import Derived.Test.YtcpgkdaicglogaaGreatDoorPvT
namespace Go.Proofs.YtcpgkdaicglogaaGreatDoorPv
open Go

section
variable {E : Ev} {s : Nat} {fr fr' fr1 fr2 : Fr} {σ σ' τ σ1 σ2 : St} {po : PO} {v u : PV} {p o : POp}

theorem stp_congr (h : ∀ t ∈ looksP p, fr t = fr' t) : stp E p fr σ = stp E p fr' σ := by
  have h1 : ∀ σ, evO E (p.dst.getD 0) fr σ p.op = evO E (p.dst.getD 0) fr' σ p.op := fun σ => evO_congr fun t ht => h t (List.mem_append_right _ ht)
  unfold stp
  cases hg : p.guard with
  | none => exact h1 σ
  | some g =>
    obtain ⟨t, want⟩ := g
    simp only
    rw [h t (by simp [looksP, hg]), h1]

theorem stp_cases (h : stp E p fr σ = some (u, σ1)) : (σ1 = σ ∧ ∀ σ', stp E p fr σ' = some (u, σ')) ∨ ∀ σ', stp E p fr σ' = evO E (p.dst.getD 0) fr σ' p.op := by
  unfold stp at h ⊢
  cases hg : p.guard with
  | none => exact .inr fun _ => rfl
  | some g =>
    obtain ⟨t, want⟩ := g
    rw [hg] at h
    simp only at h ⊢
    split at h
    · rename_i b hb
      split at h
      · rename_i hbw
        exact .inr fun σ' => by rw [if_pos hbw]
      · rename_i hbw
        simp only [Option.some.injEq, Prod.mk.injEq] at h
        obtain ⟨rfl, rfl⟩ := h
        exact .inl ⟨rfl, fun σ' => by rw [if_neg hbw]⟩
    · simp only [Option.some.injEq, Prod.mk.injEq] at h
      obtain ⟨rfl, rfl⟩ := h
      exact .inl ⟨rfl, fun σ' => rfl⟩
    · cases h

theorem stp_p (hc : clsO p.op = .p) (h : stp E p fr σ = some (u, σ1)) : σ1 = σ ∧ ∀ σ', stp E p fr σ' = some (u, σ') := by
  rcases stp_cases h with h1 | h1
  · exact h1
  · rw [h1] at h
    obtain ⟨q1, q2⟩ := evO_p hc h
    exact ⟨q1, fun σ' => by rw [h1]; exact q2 σ' _⟩

theorem stp_r (hc : clsO p.op = .r) (h : stp E p fr σ = some (u, σ1)) : σ1 = σ ∧ ∀ σ', Sub σ σ' → stp E p fr σ' = some (u, σ') := by
  rcases stp_cases h with h1 | h1
  · exact ⟨h1.1, fun σ' _ => h1.2 σ'⟩
  · rw [h1] at h
    obtain ⟨q1, q2⟩ := evO_r hc h
    exact ⟨q1, fun σ' hs => by rw [h1]; exact q2 σ' _ hs⟩

def plc (p : POp) : Nat := plcO p.op (p.dst.getD 0)

/-- What an operation that makes something does: it is skipped, or it adds an object. -/
theorem stp_n (hc : clsO p.op = .n) (h : stp E p fr σ = some (u, σ1)) : (σ1 = σ ∧ ∀ σ', stp E p fr σ' = some (u, σ')) ∨
    ∃ x, σ1 = σ.new (plc p) x ∧ ∀ σ', σ'.c (plc p) = σ.c (plc p) → stp E p fr σ' = some (u, σ'.new (plc p) x) := by
  rcases stp_cases h with h1 | h1
  · exact .inl h1
  · rw [h1] at h
    obtain ⟨x, q1, q2⟩ := evO_n hc h
    exact .inr ⟨x, q1, fun σ' hs => by rw [h1]; exact q2 σ' hs⟩

theorem stp_a (hc : clsO p.op = .a) (hf : Fresh σ) (h : stp E p fr σ = some (u, σ1)) : Sub σ σ1 ∧ Fresh σ1 ∧ (∀ d, d ≠ plc p → σ1.c d = σ.c d) ∧ ∀ d y, d ≠ plc p → stp E p fr (σ.new d y) = some (u, σ1.new d y) := by
  have hpl : plc p = p.dst.getD 0 := by
    unfold plc
    cases hq : p.op <;> first | rfl | (rw [hq] at hc; simp [clsO] at hc)
  rw [hpl]
  rcases stp_cases h with h1 | h1
  · obtain ⟨rfl, h1⟩ := h1
    exact ⟨Sub.refl _, hf, fun _ _ => rfl, fun d y _ => h1 _⟩
  · rw [h1] at h
    obtain ⟨q1, q2, q3, q4⟩ := evO_a hc h hf
    exact ⟨q1, q2, q3, fun d y hd => by rw [h1]; exact q4 d y hd⟩

/-- Does an operation leave fresh what is fresh? -/
def quiet : Cls → Bool
  | .w => false
  | _ => true

theorem stp_fresh (hc : quiet (clsO p.op) = true) (hf : Fresh σ) (h : stp E p fr σ = some (u, σ1)) : Fresh σ1 := by
  cases hcl : clsO p.op with
  | p => rw [(stp_p hcl h).1]; exact hf
  | r => rw [(stp_r hcl h).1]; exact hf
  | n =>
    rcases stp_n hcl h with ⟨rfl, _⟩ | ⟨x, rfl, _⟩
    · exact hf
    · exact hf.new _ _
  | a => exact (stp_a hcl hf h).2.1
  | w => rw [hcl] at hc; cases hc

/-- The later of two that don't hang on one another comes first. -/
theorem swapS (hi : indCls (clsO p.op) (clsO o.op) = true) (hd : clsO p.op = .p ∨ clsO o.op = .p ∨ plc o ≠ plc p) (hF : clsO o.op = .p ∨ clsO p.op = .p ∨ Fresh σ) (hp : stp E p fr σ = some (u, σ1)) (ho : stp E o fr σ1 = some (v, σ2)) :
    ∃ σ3, stp E o fr σ = some (v, σ3) ∧ stp E p fr σ3 = some (u, σ2) := by
  by_cases hop : clsO o.op = .p
  · obtain ⟨rfl, h⟩ := stp_p hop ho
    exact ⟨σ, h σ, hp⟩
  by_cases hpp : clsO p.op = .p
  · obtain ⟨rfl, h⟩ := stp_p hpp hp
    exact ⟨σ2, ho, h σ2⟩
  have hF : Fresh σ := (hF.resolve_left hop).resolve_left hpp
  have hd : plc o ≠ plc p := (hd.resolve_left hpp).resolve_left hop
  cases hcp : clsO p.op with
  | p => exact absurd hcp hpp
  | r =>
    obtain ⟨rfl, h⟩ := stp_r hcp hp
    cases hco : clsO o.op with
    | p => exact absurd hco hop
    | r =>
      obtain ⟨rfl, _⟩ := stp_r hco ho
      exact ⟨_, ho, hp⟩
    | n =>
      rcases stp_n hco ho with ⟨rfl, h2⟩ | ⟨x, rfl, h2⟩
      · exact ⟨_, ho, hp⟩
      · exact ⟨_, ho, h _ (Sub.new hF _ _)⟩
    | a => exact ⟨_, ho, h _ (stp_a hco hF ho).1⟩
    | w => rw [hcp, hco] at hi; cases hi
  | n =>
    cases hco : clsO o.op with
    | n =>
      rcases stp_n hcp hp with ⟨rfl, h1⟩ | ⟨x, rfl, h1⟩
      · exact ⟨_, ho, h1 _⟩
      · rcases stp_n hco ho with ⟨rfl, h2⟩ | ⟨y, rfl, h2⟩
        · exact ⟨σ, h2 σ, hp⟩
        · refine ⟨σ.new (plc o) y, h2 σ (by simp [St.new, hd]), ?_⟩
          rw [h1 _ (by simp [St.new, Ne.symm hd]), new_comm hd]
    | p => exact absurd hco hop
    | r => rw [hcp, hco] at hi; cases hi
    | a => rw [hcp, hco] at hi; cases hi
    | w => rw [hcp, hco] at hi; cases hi
  | a =>
    cases hco : clsO o.op with
    | n =>
      obtain ⟨_, _, h3, h4⟩ := stp_a hcp hF hp
      rcases stp_n hco ho with ⟨rfl, h2⟩ | ⟨y, rfl, h2⟩
      · exact ⟨σ, h2 σ, hp⟩
      · exact ⟨σ.new (plc o) y, h2 σ (h3 _ hd).symm, h4 _ _ hd⟩
    | p => exact absurd hco hop
    | r => rw [hcp, hco] at hi; cases hi
    | a => rw [hcp, hco] at hi; cases hi
    | w => rw [hcp, hco] at hi; cases hi
  | w => cases hco : clsO o.op <;> first | exact absurd hco hop | (rw [hcp, hco] at hi; cases hi)

theorem put_ne {d : Option Nat} {t : Nat} (h : d ≠ some t) : (fr.put d v) t = fr t := by
  cases d with
  | none => rfl
  | some d =>
    simp only [Fr.put, Fr.set]
    rw [if_neg]
    rintro rfl
    exact h rfl

theorem put_comm {d e : Option Nat} (h : ∀ t, d = some t → e ≠ some t) : (fr.put d u).put e v = (fr.put e v).put d u := by
  cases d with
  | none => rfl
  | some d =>
    cases e with
    | none => rfl
    | some e =>
      have hne : e ≠ d := fun he => h d rfl (by rw [he])
      funext t
      simp only [Fr.put, Fr.set]
      by_cases h1 : t = e
      · subst h1; simp [hne]
      · simp [h1]

theorem indep_spec (h : indep p o = true) : indCls (clsO p.op) (clsO o.op) = true ∧ (∀ t ∈ looksP o, p.dst ≠ some t) ∧ (∀ t, p.dst = some t → o.dst ≠ some t) ∧ (∀ t ∈ looksP p, o.dst ≠ some t) ∧ (clsO p.op = .p ∨ clsO o.op = .p ∨ plc o ≠ plc p) := by
  unfold indep at h
  simp only [Bool.and_eq_true, Bool.or_eq_true, beq_iff_eq] at h
  obtain ⟨⟨⟨h1, h2⟩, h3⟩, h4⟩ := h
  have g2 : ∀ t, p.dst = some t → t ∉ looksP o ∧ o.dst ≠ some t := by
    intro t ht
    simp only [dstL, ht, List.all_cons, List.all_nil, Bool.and_true, Bool.and_eq_true, Bool.not_eq_true', List.contains_eq_mem, decide_eq_false_iff_not] at h2
    refine ⟨h2.1, fun ho => ?_⟩
    simp [ho] at h2
  have g3 : ∀ t, o.dst = some t → t ∉ looksP p := by
    intro t ht
    simpa [dstL, ht] using h3
  refine ⟨h1, fun t ht hp => (g2 t hp).1 ht, fun t hp => (g2 t hp).2, fun t ht ho => g3 t ho ht, ?_⟩
  rcases h4 with (h4 | h4) | ⟨⟨h4, h5⟩, h6⟩
  · exact .inl h4
  · exact .inr (.inl h4)
  · refine .inr (.inr fun he => ?_)
    obtain ⟨d, hd⟩ := Option.isSome_iff_exists.1 h4.1
    obtain ⟨e, he'⟩ := Option.isSome_iff_exists.1 h4.2
    have b1 : d < 1000000 := by simpa [dstL, hd] using h5
    have b2 : e < 1000000 := by simpa [dstL, he'] using h6
    unfold plc at he
    rw [hd, he'] at he
    have key : ∀ (a b : PO), plcO a e = plcO b d → e = d := by
      intro a b hab
      cases a <;> cases b <;> simp only [plcO] at hab <;> omega
    have := key _ _ he
    exact (g2 d hd).2 (by rw [he', this])

theorem swap (hi : indep p o = true) (hF : clsO o.op = .p ∨ clsO p.op = .p ∨ Fresh σ) (h1 : ev1 E p fr σ = some (fr1, σ1)) (h2 : ev1 E o fr1 σ1 = some (fr2, σ2)) :
    ∃ fr3 σ3, ev1 E o fr σ = some (fr3, σ3) ∧ ev1 E p fr3 σ3 = some (fr2, σ2) := by
  obtain ⟨g1, g2, g3, g4, g5⟩ := indep_spec hi
  unfold ev1 at h1 h2
  obtain ⟨⟨u, τ1⟩, hp, h1⟩ := Option.map_eq_some_iff.1 h1
  simp only [Prod.mk.injEq] at h1
  obtain ⟨rfl, rfl⟩ := h1
  obtain ⟨⟨v, τ2⟩, ho, h2⟩ := Option.map_eq_some_iff.1 h2
  simp only [Prod.mk.injEq] at h2
  obtain ⟨rfl, rfl⟩ := h2
  rw [stp_congr (fr' := fr) fun t ht => put_ne (g2 t ht)] at ho
  obtain ⟨σ3, h3, h4⟩ := swapS g1 g5 hF hp ho
  refine ⟨fr.put o.dst v, σ3, by unfold ev1; rw [h3]; rfl, ?_⟩
  unfold ev1
  rw [stp_congr (fr' := fr) fun t ht => put_ne (g4 t ht), h4, put_comm g3]
  rfl

theorem ev1_fresh (hc : quiet (clsO p.op) = true) (hf : Fresh σ) (h : ev1 E p fr σ = some (fr1, σ1)) : Fresh σ1 := by
  unfold ev1 at h
  obtain ⟨⟨u, τ1⟩, hp, h1⟩ := Option.map_eq_some_iff.1 h
  simp only [Prod.mk.injEq] at h1
  obtain ⟨rfl, rfl⟩ := h1
  exact stp_fresh hc hf hp

/-- An operation that hangs on none of those ahead of it comes first. -/
theorem front {E : Ev} {o : POp} : ∀ (pre post : List POp) (fr : Fr) (σ : St) (R : Fr × St), (∀ p ∈ pre, indep p o = true) → Fresh σ → evOs E (pre ++ o :: post) fr σ = some R → evOs E (o :: (pre ++ post)) fr σ = some R
  | [], post, fr, σ, R, _, _, h => h
  | p :: pre, post, fr, σ, R, hi, hF, h => by
    simp only [List.cons_append, evOs] at h
    obtain ⟨⟨fr1, σ1⟩, h1, h⟩ := Option.bind_eq_some_iff.1 h
    have key : evOs E (o :: (pre ++ post)) fr1 σ1 = some R → evOs E (o :: (p :: pre ++ post)) fr σ = some R := by
      intro h
      simp only [evOs] at h
      obtain ⟨⟨fr2, σ2⟩, h2, h⟩ := Option.bind_eq_some_iff.1 h
      obtain ⟨fr3, σ3, h3, h4⟩ := swap (hi p (by simp)) (.inr (.inr hF)) h1 h2
      simp only [List.cons_append, evOs, h3, Option.bind_some, h4]
      exact h
    by_cases hop : clsO o.op = .p
    · -- nothing of what lies ahead matters
      have hall : ∀ (pre : List POp) (fr : Fr) (σ : St), (∀ p ∈ pre, indep p o = true) → evOs E (pre ++ o :: post) fr σ = some R → evOs E (o :: (pre ++ post)) fr σ = some R := by
        intro pre
        induction pre with
        | nil => intro fr σ _ h; exact h
        | cons q pre ih =>
          intro fr σ hi h
          simp only [List.cons_append, evOs] at h
          obtain ⟨⟨fr1, σ1⟩, h1, h⟩ := Option.bind_eq_some_iff.1 h
          have h := ih fr1 σ1 (fun p hp => hi p (by simp [hp])) h
          simp only [evOs] at h
          obtain ⟨⟨fr2, σ2⟩, h2, h⟩ := Option.bind_eq_some_iff.1 h
          obtain ⟨fr3, σ3, h3, h4⟩ := swap (hi q (by simp)) (.inl hop) h1 h2
          simp only [List.cons_append, evOs, h3, Option.bind_some, h4]
          exact h
      exact key (hall pre fr1 σ1 (fun p hp => hi p (by simp [hp])) h)
    · have hq : quiet (clsO p.op) = true := by
        have := (indep_spec (hi p (by simp))).1
        cases hcp : clsO p.op with
        | w => rw [hcp] at this; cases hco : clsO o.op <;> rw [hco] at this <;> first | exact absurd hco hop | cases this
        | _ => rfl
      exact key (front pre post fr1 σ1 R (fun p hp => hi p (by simp [hp])) (ev1_fresh hq hF h1) h)

end
end Go.Proofs.YtcpgkdaicglogaaGreatDoorPv
