/-
Operations that don't hang on one another: in which order they are reckoned doesn't matter. No program in sight.
-/
import Derived.Test.YtcpgkdaicglogaaGreatDoorPvB
namespace Go.Proofs.YtcpgkdaicglogaaGreatDoorPv
open Go

section
variable {E : Ev} {s : Nat} {fr fr' : Fr} {σ σ' τ : St} {po : PO} {v u : PV}

theorem pa_congr {x : PA} (h : ∀ t ∈ paT x, fr t = fr' t) : pa fr x = pa fr' x := by
  cases x with
  | t n => exact h n (by simp [paT])
  | _ => rfl

theorem map_pa_congr {xs : List PA} (h : ∀ t ∈ xs.flatMap paT, fr t = fr' t) : xs.map (pa fr) = xs.map (pa fr') :=
  List.map_congr_left fun x hx => pa_congr fun t ht => h t (List.mem_flatMap.2 ⟨x, hx, ht⟩)

theorem hi_congr {n : Nat} {x : Option PA} (h : ∀ t ∈ (match x with | some y => paT y | none => []), fr t = fr' t) : hiOf n fr x = hiOf n fr' x := by
  cases x with
  | none => rfl
  | some y => simp only [hiOf]; rw [pa_congr h]

theorem lo_congr {n : Nat} {x : Option PA} (h : ∀ t ∈ (match x with | some y => paT y | none => []), fr t = fr' t) : loOf n fr x = loOf n fr' x := by
  cases x with
  | none => rfl
  | some y => simp only [loOf]; rw [pa_congr h]

/-- An operation looks at its operands only. -/
theorem evO_congr (h : ∀ t ∈ looks po, fr t = fr' t) : evO E s fr σ po = evO E s fr' σ po := by
  cases po with
  | pick a b c =>
    simp only [looks, List.mem_append] at h
    simp only [evO]
    rw [pa_congr (x := a) fun t ht => h t (.inl (.inl ht)), pa_congr (x := b) fun t ht => h t (.inl (.inr ht)), pa_congr (x := c) fun t ht => h t (.inr ht)]
  | bin op x y | eqs op ks x y | beq op x y | st op x y | ia op x y | ix x y | msl e1 e2 e3 x y | app e1 e2 e3 x y | iaa e1 e2 x y | ixa e1 e2 e3 x y =>
    simp only [looks, List.mem_append] at h
    simp only [evO]
    rw [pa_congr (x := x) fun t ht => h t (.inl ht), pa_congr (x := y) fun t ht => h t (.inr ht)]
  | appb kw x y =>
    simp only [looks, List.mem_append] at h
    simp only [evO]
    rw [pa_congr (x := x) fun t ht => h t (.inl ht), pa_congr (x := y) fun t ht => h t (.inr ht)]
  | build z ps =>
    simp only [looks] at h
    simp only [evO]
    have : (ps.map fun (o, n, x) => (o, n, pa fr x)) = ps.map fun (o, n, x) => (o, n, pa fr' x) :=
      List.map_congr_left fun p hp => by
        obtain ⟨o, n, x⟩ := p
        simp only [pa_congr (x := x) fun t ht => h t (List.mem_flatMap.2 ⟨_, hp, ht⟩)]
    rw [this]
  | bsl es z n ps =>
    simp only [looks] at h
    simp only [evO]
    have : (ps.map fun (i, x) => (i, pa fr x)) = ps.map fun (i, x) => (i, pa fr' x) :=
      List.map_congr_left fun p hp => by
        obtain ⟨i, x⟩ := p
        simp only [pa_congr (x := x) fun t ht => h t (List.mem_flatMap.2 ⟨_, hp, ht⟩)]
    rw [this]
  | mkf f a b =>
    simp only [looks, List.mem_append] at h
    simp only [evO]
    rw [map_pa_congr (xs := a) fun t ht => h t (.inl ht), map_pa_congr (xs := b) fun t ht => h t (.inr ht)]
  | slcS x lo hi =>
    simp only [looks, List.mem_append] at h
    have e : ∀ p, slcSP fr p lo hi = slcSP fr' p lo hi := fun p => by
      unfold slcSP
      cases p with
      | sc v => cases v <;> simp only [hi_congr (x := hi) fun t ht => h t (.inr ht), lo_congr (x := lo) fun t ht => h t (.inl (.inr ht))]
      | _ => rfl
    simp only [evO]
    rw [pa_congr (x := x) fun t ht => h t (.inl (.inl ht)), e]
  | slcL es x lo hi =>
    simp only [looks, List.mem_append] at h
    have e : ∀ p, slcLP es fr p lo hi = slcLP es fr' p lo hi := fun p => by
      unfold slcLP
      cases p <;> simp only [hi_congr (x := hi) fun t ht => h t (.inr ht), lo_congr (x := lo) fun t ht => h t (.inl (.inr ht))]
    simp only [evO]
    rw [pa_congr (x := x) fun t ht => h t (.inl (.inl ht)), e]
  | mnmx mx xs =>
    simp only [looks] at h
    simp only [evO]
    rw [map_pa_congr (xs := xs) h]
  | call f md xs =>
    simp only [looks] at h
    simp only [evO]
    rw [map_pa_congr (xs := xs) h]
  | icall f xs =>
    simp only [looks] at h
    simp only [evO]
    rw [map_pa_congr h]
  | callv f md xs =>
    simp only [looks, List.mem_append] at h
    simp only [evO]
    rw [map_pa_congr (xs := xs) fun t ht => h t (.inr ht), pa_congr (x := f) fun t ht => h t (.inl ht)]
  | inv tb md f xs =>
    simp only [looks, List.mem_append] at h
    simp only [evO]
    rw [map_pa_congr (xs := xs) fun t ht => h t (.inr ht), pa_congr (x := f) fun t ht => h t (.inl ht)]
  | bbx | mkm => rfl
  | mput kd a b c =>
    simp only [looks, List.mem_append] at h
    simp only [evO]
    rw [pa_congr (x := a) fun t ht => h t (.inl (.inl ht)), pa_congr (x := b) fun t ht => h t (.inl (.inr ht)), pa_congr (x := c) fun t ht => h t (.inr ht)]
  | mget kd z ok x y | mdel kd x y =>
    simp only [looks, List.mem_append] at h
    simp only [evO]
    rw [pa_congr (x := x) fun t ht => h t (.inl ht), pa_congr (x := y) fun t ht => h t (.inr ht)]
  | mv x | un op x | cvi k x | str x | s2b x | b2s x | box x | ld n x | nck x | fa o x | fld o n x | ext x i | lenS x | lenL x | clr es z x | mlen x | slcA e1 e2 x | mki e1 x | tas e1 e2 e3 x | inil e1 x =>
    simp only [looks] at h
    simp only [evO]
    rw [pa_congr (x := x) h]

theorem map_pair {α : Type} {x : Option α} {f : α → PV} (h : x.map (fun y => (f y, σ)) = some (v, τ)) : τ = σ ∧ ∀ σ' : St, x.map (fun y => (f y, σ')) = some (v, σ') := by
  obtain ⟨y, rfl, hy⟩ := Option.map_eq_some_iff.1 h
  simp only [Prod.mk.injEq] at hy
  obtain ⟨rfl, rfl⟩ := hy
  exact ⟨rfl, fun _ => rfl⟩

/-- Operations that have nothing to do with memory. -/
theorem evO_p (hc : clsO po = .p) (h : evO E s fr σ po = some (v, τ)) : τ = σ ∧ ∀ σ' s', evO E s' fr σ' po = some (v, σ') := by
  cases po with
  | app a b kw x y => cases kw <;> simp [clsO] at hc
  | call f md args => cases md <;> simp [clsO] at hc
  | callv f md args => cases md <;> simp [clsO] at hc
  | inv tb md f args => cases md <;> simp [clsO] at hc
  | _ => first
    | (exfalso; simp [clsO] at hc; done)
    | (simp only [evO] at h ⊢
       repeat' split at h
       all_goals first
         | (cases h; done)
         | (simp only [Option.some.injEq, Prod.mk.injEq] at h; obtain ⟨rfl, rfl⟩ := h; exact ⟨rfl, fun _ _ => by simp_all⟩)
         | (obtain ⟨q1, q2⟩ := map_pair h; exact ⟨q1, fun σ' _ => by have q2 := q2 σ'; simp_all⟩))

/-- What is known in one memory is known in the other. -/
def Sub (σ τ : St) : Prop := (∀ o g x, σ.m o g = some x → ∃ x', τ.m o g = some x' ∧ x'.es = x.es ∧ x'.xs = x.xs) ∧ τ.mm = σ.mm

theorem Sub.refl (σ : St) : Sub σ σ := ⟨fun _ _ x h => ⟨x, h, rfl, rfl⟩, rfl⟩

theorem Sub.elems (h : Sub σ σ') {p : PV} {xs : List PV} (he : elemsOf σ p = some xs) : elemsOf σ' p = some xs := by
  cases p with
  | ob o g es i n =>
    simp only [elemsOf] at he ⊢
    split at he
    · rename_i x hx
      obtain ⟨x', h1, h2, h3⟩ := h.1 o g x hx
      rw [h1]
      simp only [h2, h3]
      exact he
    · cases he
  | _ => exact he

theorem Sub.deref (h : Sub σ σ') {p : PV} {q : PV × Nat} (he : deref σ p = some q) : deref σ' p = some q := by
  cases p with
  | bx o g es i j =>
    simp only [Go.Proofs.YtcpgkdaicglogaaGreatDoorPv.deref] at he ⊢
    split at he
    · rename_i x hx
      obtain ⟨x', h1, h2, h3⟩ := h.1 o g x hx
      rw [h1]
      simp only [h2, h3]
      exact he
    · cases he
  | _ => exact he

theorem mapM_imp {α β : Type} {f g : α → Option β} (h : ∀ x y, f x = some y → g x = some y) : ∀ {l : List α} {r : List β}, l.mapM f = some r → l.mapM g = some r
  | [], r, hr => by simpa using hr
  | x :: l, r, hr => by
    simp only [List.mapM_cons, Option.bind_eq_bind, Option.bind_eq_some_iff] at hr ⊢
    obtain ⟨y, hy, r', hr', hr⟩ := hr
    exact ⟨y, h x y hy, r', mapM_imp h hr', hr⟩

theorem Sub.fz (h : Sub σ σ') : ∀ (d : Nat) (p q : PV), fz σ d p = some q → fz σ' d p = some q
  | 0, p, q, he => by simp [Go.Proofs.YtcpgkdaicglogaaGreatDoorPv.fz] at he
  | d + 1, p, q, he => by
    have ih := Sub.fz h d
    cases p with
    | ob o g es i n =>
      simp only [Go.Proofs.YtcpgkdaicglogaaGreatDoorPv.fz] at he ⊢
      split at he
      · rename_i x hx
        obtain ⟨x', h1, h2, h3⟩ := h.1 o g x hx
        rw [h1]
        simp only [h2, h3]
        split at he
        · rename_i hc
          rw [if_pos hc]
          obtain ⟨l, hl, rfl⟩ := Option.map_eq_some_iff.1 he
          rw [mapM_imp ih hl]; rfl
        · cases he
      · cases he
    | bx o g es i j =>
      simp only [Go.Proofs.YtcpgkdaicglogaaGreatDoorPv.fz] at he ⊢
      split at he
      · rename_i x hx
        obtain ⟨x', h1, h2, h3⟩ := h.1 o g x hx
        rw [h1]
        simp only [h2, h3]
        split at he
        · rename_i hc
          rw [if_pos hc]
          obtain ⟨l, hl, rfl⟩ := Option.map_eq_some_iff.1 he
          rw [mapM_imp ih hl]; rfl
        · cases he
      · cases he
    | fn f a b =>
      simp only [Go.Proofs.YtcpgkdaicglogaaGreatDoorPv.fz] at he ⊢
      obtain ⟨a', ha, he⟩ := Option.bind_eq_some_iff.1 he
      obtain ⟨b', hb, rfl⟩ := Option.map_eq_some_iff.1 he
      rw [mapM_imp ih ha, mapM_imp ih hb]; rfl
    | agg cs =>
      simp only [Go.Proofs.YtcpgkdaicglogaaGreatDoorPv.fz] at he ⊢
      obtain ⟨l, hl, rfl⟩ := Option.map_eq_some_iff.1 he
      rw [mapM_imp ih hl]; rfl
    | tu cs =>
      simp only [Go.Proofs.YtcpgkdaicglogaaGreatDoorPv.fz] at he ⊢
      obtain ⟨l, hl, rfl⟩ := Option.map_eq_some_iff.1 he
      rw [mapM_imp ih hl]; rfl
    | ifc t x =>
      simp only [Go.Proofs.YtcpgkdaicglogaaGreatDoorPv.fz] at he ⊢
      obtain ⟨l, hl, rfl⟩ := Option.map_eq_some_iff.1 he
      rw [ih x l hl]; rfl
    | jk => exact he
    | sc x => exact he
    | em => exact he
    | sl x => exact he
    | fp x i j => exact he
    | mp o g => simp [Go.Proofs.YtcpgkdaicglogaaGreatDoorPv.fz] at he

theorem strict_sub (h : Sub σ σ') {f : Nat} {args : List PV} (he : pcall E true f args σ = some (v, τ)) : τ = σ ∧ pcall E true f args σ' = some (v, σ') := by
  unfold pcall at he ⊢
  obtain ⟨as, has, he⟩ := Option.bind_eq_some_iff.1 he
  obtain ⟨⟨r, σ1⟩, hr, he⟩ := Option.bind_eq_some_iff.1 he
  obtain ⟨r', hr', he⟩ := Option.bind_eq_some_iff.1 he
  rw [mapM_imp (h.fz dep) has]
  simp only [Option.bind_some, hr, hr']
  split at he
  · rename_i hc
    simp only [Option.some.injEq, Prod.mk.injEq] at he
    obtain ⟨rfl, rfl⟩ := he
    exact ⟨rfl, by rw [if_pos hc]⟩
  · simp at he

/-- Operations that read memory. -/
theorem evO_r (hc : clsO po = .r) (h : evO E s fr σ po = some (v, τ)) : τ = σ ∧ ∀ σ' s', Sub σ σ' → evO E s' fr σ' po = some (v, σ') := by
  cases po with
  | ld sz a =>
    simp only [evO] at h ⊢
    obtain ⟨⟨x, j⟩, hd, h⟩ := Option.bind_eq_some_iff.1 h
    cases sz with
    | none =>
      obtain ⟨q1, q2⟩ := map_pair h
      exact ⟨q1, fun σ' _ hs => by rw [hs.deref hd]; exact q2 σ'⟩
    | some n =>
      simp only at h
      split at h
      · rename_i hq
        simp only [Option.some.injEq, Prod.mk.injEq] at h
        obtain ⟨rfl, rfl⟩ := h
        exact ⟨rfl, fun σ' _ hs => by rw [hs.deref hd]; simp only [Option.bind_some]; rw [if_pos hq]⟩
      · cases h
  | b2s x =>
    simp only [evO] at h ⊢
    obtain ⟨xs, hx, h⟩ := Option.bind_eq_some_iff.1 h
    obtain ⟨q1, q2⟩ := map_pair h
    exact ⟨q1, fun σ' _ hs => by rw [hs.elems hx]; exact q2 σ'⟩
  | call f md args =>
    cases md <;> simp only [clsO] at hc
    · simp only [evO, callE] at h ⊢
      exact ⟨(strict_sub (Sub.refl σ) h).1, fun σ' _ hs => (strict_sub hs h).2⟩
    all_goals cases hc
  | callv f md args =>
    cases md <;> simp only [clsO] at hc
    · simp only [evO, callE] at h ⊢
      split at h
      · exact ⟨(strict_sub (Sub.refl σ) h).1, fun σ' _ hs => (strict_sub hs h).2⟩
      · cases h
    all_goals cases hc
  | inv tb md f args =>
    cases md <;> simp only [clsO] at hc
    · simp only [evO, callE] at h ⊢
      split at h
      · split at h
        · exact ⟨(strict_sub (Sub.refl σ) h).1, fun σ' _ hs => (strict_sub hs h).2⟩
        · cases h
      · cases h
    all_goals cases hc
  | app a b kw x y => cases kw <;> simp [clsO] at hc
  | mget kd z ok m k =>
    simp only [evO] at h ⊢
    split at h
    · split at h
      · rename_i hk
        obtain ⟨l, hl, h⟩ := Option.bind_eq_some_iff.1 h
        obtain ⟨r, hr, h⟩ := Option.map_eq_some_iff.1 h
        simp only [Prod.mk.injEq] at h
        obtain ⟨rfl, rfl⟩ := h
        exact ⟨rfl, fun σ' _ hs => by rw [if_pos hk, hs.2, hl]; simp only [Option.bind_some, hr, Option.map_some]⟩
      · cases h
    · cases h
  | mlen m =>
    simp only [evO] at h ⊢
    split at h
    · obtain ⟨l, hl, h⟩ := Option.bind_eq_some_iff.1 h
      split at h
      · rename_i hk
        simp only [Option.some.injEq, Prod.mk.injEq] at h
        obtain ⟨rfl, rfl⟩ := h
        exact ⟨rfl, fun σ' _ hs => by rw [hs.2, hl]; simp only [Option.bind_some]; rw [if_pos hk]⟩
      · cases h
    · cases h
  | _ => simp [clsO] at hc

/-- Where an operation's object lies: boxes lie apart. -/
def plcO : PO → Nat → Nat
  | .box _, s => 2000000 + s
  | _, s => s

/-- Operations that make a new object out of nothing that lies in memory. -/
theorem evO_n (hc : clsO po = .n) (h : evO E s fr σ po = some (v, τ)) : ∃ x, τ = σ.new (plcO po s) x ∧ ∀ σ', σ'.c (plcO po s) = σ.c (plcO po s) → evO E s fr σ' po = some (v, σ'.new (plcO po s) x) := by
  cases po with
  | box x =>
    simp only [evO] at h ⊢
    split at h
    · rename_i hq
      simp only [Option.some.injEq, Prod.mk.injEq] at h
      obtain ⟨rfl, rfl⟩ := h
      exact ⟨_, rfl, fun σ' hs => by simp only [plcO] at hs; rw [if_pos hq, hs]; rfl⟩
    · cases h
  | bsl es z n ps =>
    simp only [evO] at h ⊢
    obtain ⟨xs, hx, h⟩ := Option.map_eq_some_iff.1 h
    simp only [Prod.mk.injEq] at h
    obtain ⟨rfl, rfl⟩ := h
    exact ⟨_, rfl, fun σ' hs => by simp only [plcO] at hs; rw [hx, hs]; rfl⟩
  | msl es b z n c =>
    simp only [evO] at h ⊢
    split at h
    · split at h
      · rename_i hq
        simp only [Option.some.injEq, Prod.mk.injEq] at h
        obtain ⟨rfl, rfl⟩ := h
        exact ⟨_, rfl, fun σ' hs => by simp only [plcO] at hs; rw [if_pos hq, hs]; rfl⟩
      · cases h
    · cases h
  | app a b kw x y => cases kw <;> simp [clsO] at hc
  | call f md args => cases md <;> simp [clsO] at hc
  | callv f md args => cases md <;> simp [clsO] at hc
  | inv tb md f args => cases md <;> simp [clsO] at hc
  | _ => simp [clsO] at hc

def Fresh (σ : St) : Prop := ∀ o g, (σ.m o g).isSome = true → g < σ.c o

theorem Fresh.none (h : Fresh σ) (s : Nat) : σ.m s (σ.c s) = none := by
  cases hm : σ.m s (σ.c s) with
  | none => rfl
  | some x => have := h s (σ.c s) (by rw [hm]; rfl); omega

theorem Fresh.new (h : Fresh σ) (s : Nat) (x : Obj) : Fresh (σ.new s x) := by
  intro o g hs
  simp only [St.new] at hs ⊢
  split at hs
  · rename_i hq
    rw [if_pos hq.1, hq.2]; omega
  · have := h o g hs
    split
    · rename_i hq; subst hq; omega
    · exact this

theorem Sub.new (h : Fresh σ) (s : Nat) (x : Obj) : Sub σ (σ.new s x) := by
  refine ⟨?_, rfl⟩
  intro o g y hy
  refine ⟨y, ?_, rfl, rfl⟩
  simp only [St.new]
  rw [if_neg]
  · exact hy
  · rintro ⟨rfl, rfl⟩
    rw [h.none] at hy; cases hy

theorem new_comm {s d : Nat} (hne : s ≠ d) (x y : Obj) (σ : St) : (σ.new s x).new d y = (σ.new d y).new s x := by
  simp only [St.new, St.mk.injEq, and_true]
  constructor
  · funext o g
    by_cases h1 : o = d
    · have h3 : o ≠ s := fun h => hne (h.symm.trans h1)
      simp [h1, Ne.symm hne]
    · simp [h1, hne]
  · funext o
    by_cases h1 : o = d
    · have h3 : o ≠ s := fun h => hne (h.symm.trans h1)
      simp [h1, Ne.symm hne]
    · simp [h1, hne]

theorem Sub.src (h : Sub σ σ') {es : Nat} {p : PV} {xs : List PV} (he : srcOf σ es p = some xs) : srcOf σ' es p = some xs := by
  cases p with
  | sc v => cases v <;> first | (simp only [srcOf] at he ⊢; exact h.elems he) | exact he
  | _ => simp only [srcOf] at he ⊢; exact h.elems he

/-- append that lets nothing be written any more. -/
theorem evO_a (hc : clsO po = .a) (h : evO E s fr σ po = some (v, τ)) (hf : Fresh σ) : Sub σ τ ∧ Fresh τ ∧ (∀ d, d ≠ s → τ.c d = σ.c d) ∧ ∀ d y, d ≠ s → evO E s fr (σ.new d y) po = some (v, τ.new d y) := by
  cases po with
  | app es b kw x y =>
    cases kw with
    | true => simp [clsO] at hc
    | false =>
      simp only [evO] at h ⊢
      obtain ⟨ys, hys, h⟩ := Option.bind_eq_some_iff.1 h
      have hsub : ∀ d y', Sub σ (σ.new d y') := fun d y' => Sub.new hf d y'
      have hys' : ∀ d y', srcOf (σ.new d y') es (pa fr y) = some ys := fun d y' => (hsub d y').src hys
      split at h
      · rename_i hall
        split at h
        · rename_i hem
          split at h
          · rename_i hbd
            split at h
            · rename_i hemp
              simp only [Option.some.injEq, Prod.mk.injEq] at h
              obtain ⟨rfl, rfl⟩ := h
              exact ⟨Sub.refl _, hf, fun _ _ => rfl, fun d y' hd => by rw [hys' d y']; simp only [Option.bind_some]; rw [if_pos hall, if_pos hbd, if_pos hemp]⟩
            · rename_i hemp
              simp only [Option.some.injEq, Prod.mk.injEq] at h
              obtain ⟨rfl, rfl⟩ := h
              refine ⟨Sub.new hf _ _, hf.new _ _, fun d hd => by simp [St.new, hd], fun d y' hd => ?_⟩
              rw [hys' d y']; simp only [Option.bind_some]; rw [if_pos hall, if_pos hbd, if_neg hemp, new_comm hd]
              simp [St.new, Ne.symm hd]
          · cases h
        · rename_i hem
          split at h
          · rename_i hbd
            split at h
            · rename_i hemp
              simp only [Option.some.injEq, Prod.mk.injEq] at h
              obtain ⟨rfl, rfl⟩ := h
              exact ⟨Sub.refl _, hf, fun _ _ => rfl, fun d y' hd => by rw [hys' d y']; simp only [Option.bind_some]; rw [if_pos hall, if_pos hbd, if_pos hemp]⟩
            · rename_i hemp
              simp only [Option.some.injEq, Prod.mk.injEq] at h
              obtain ⟨rfl, rfl⟩ := h
              refine ⟨Sub.new hf _ _, hf.new _ _, fun d hd => by simp [St.new, hd], fun d y' hd => ?_⟩
              rw [hys' d y']; simp only [Option.bind_some]; rw [if_pos hall, if_pos hbd, if_neg hemp, new_comm hd]
              simp [St.new, Ne.symm hd]
          · cases h
        · rename_i o g es' i n hob
          split at h
          · rename_i y0 hy0
            split at h
            · rename_i hcond
              simp only [Bool.and_false, Bool.false_eq_true, if_false, Option.some.injEq, Prod.mk.injEq] at h
              obtain ⟨rfl, rfl⟩ := h
              have hfp : Fresh (σ.put o g (some { y0 with al := false, wr := false })) := by
                intro o' g' hs
                simp only [St.put] at hs ⊢
                split at hs
                · rename_i hq; exact hf o' g' (by rw [hq.1, hq.2, hy0]; rfl)
                · exact hf o' g' hs
              have hsp : Sub σ (σ.put o g (some { y0 with al := false, wr := false })) := by
                refine ⟨?_, rfl⟩
                intro o' g' x' hx'
                simp only [St.put]
                by_cases hq : o' = o ∧ g' = g
                · rw [if_pos hq]
                  rw [hq.1, hq.2, hy0] at hx'
                  simp only [Option.some.injEq] at hx'
                  subst hx'
                  exact ⟨_, rfl, rfl, rfl⟩
                · rw [if_neg hq]; exact ⟨x', hx', rfl, rfl⟩
              refine ⟨⟨fun o' g' x' hx' => ?_, rfl⟩, hfp.new _ _, fun d hd => by simp [St.new, St.put, hd], fun d y' hd => ?_⟩
              · obtain ⟨x1, h1, h2, h3⟩ := hsp.1 o' g' x' hx'
                obtain ⟨x2, h4, h5, h6⟩ := (Sub.new hfp s ⟨es, y0.xs ++ ys, true, false⟩).1 o' g' x1 h1
                exact ⟨x2, by simpa using h4, by rw [h5, h2], by rw [h6, h3]⟩
              · have hm : (σ.new d y').m o g = some y0 := by
                  simp only [St.new]
                  rw [if_neg]
                  · exact hy0
                  · rintro ⟨rfl, rfl⟩
                    rw [hf.none] at hy0; cases hy0
                have hput : (σ.new d y').put o g (some { y0 with al := false, wr := false }) = (σ.put o g (some { y0 with al := false, wr := false })).new d y' := by
                  simp only [St.new, St.put, St.mk.injEq, and_true]
                  funext o' g'
                  by_cases h1 : o' = o ∧ g' = g
                  · obtain ⟨rfl, rfl⟩ := h1
                    have : ¬ (o' = d ∧ g' = σ.c d) := by
                      rintro ⟨rfl, rfl⟩
                      rw [hf.none] at hy0; cases hy0
                    simp [this]
                  · simp [h1]
                rw [hys' d y']; simp only [Option.bind_some]; rw [if_pos hall]; simp only [hm]; rw [if_pos hcond]
                simp only [Bool.and_false, Bool.false_eq_true, if_false]
                rw [hput, new_comm hd]
                simp [St.new, St.put, Ne.symm hd]
            · cases h
          · cases h
        · cases h
      · cases h
  | call f md args => cases md <;> simp [clsO] at hc
  | callv f md args => cases md <;> simp [clsO] at hc
  | inv tb md f args => cases md <;> simp [clsO] at hc
  | icall f args =>
    simp only [evO, icallE] at h ⊢
    obtain ⟨as, has, h⟩ := Option.bind_eq_some_iff.1 h
    obtain ⟨q, hq, h⟩ := Option.bind_eq_some_iff.1 h
    have has' : ∀ d y', (args.map (pa fr)).mapM (fz (σ.new d y') dep) = some as := fun d y' => mapM_imp (fun p r hp => (Sub.new hf d y').fz dep p r hp) has
    split at h
    · rename_i hem
      simp only [Option.some.injEq, Prod.mk.injEq] at h
      obtain ⟨rfl, rfl⟩ := h
      exact ⟨Sub.refl _, hf, fun _ _ => rfl, fun d y' hd => by rw [has' d y']; simp only [Option.bind_some]; rw [hq]; simp only [Option.bind_some, hem]⟩
    · rename_i o g es i n hob
      obtain ⟨x, hx, h⟩ := Option.bind_eq_some_iff.1 h
      split at h
      · rename_i hcond
        simp only [Option.some.injEq, Prod.mk.injEq] at h
        obtain ⟨rfl, rfl⟩ := h
        refine ⟨Sub.new hf _ _, hf.new _ _, fun d hd => by simp [St.new, hd], fun d y' hd => ?_⟩
        rw [has' d y']; simp only [Option.bind_some]; rw [hq]; simp only [Option.bind_some, hob, hx]
        rw [if_pos hcond, new_comm hd]
        simp [St.new, Ne.symm hd]
      · cases h
    · cases h
  | _ => simp [clsO] at hc

end
end Go.Proofs.YtcpgkdaicglogaaGreatDoorPv
