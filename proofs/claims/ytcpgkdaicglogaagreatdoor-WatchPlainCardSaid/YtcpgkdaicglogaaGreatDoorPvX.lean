/-
Without fuel: the evaluator's limit, and its equations. No program in sight.
-/
import Derived.Test.YtcpgkdaicglogaaGreatDoorPvA
namespace Go.Proofs.YtcpgkdaicglogaaGreatDoorPv
open Go

section
variable {α β : Type}

/-- The value that a growing row of values comes to. -/
noncomputable def olim (s : Nat → Option α) : Option α := by
  classical
  exact if h : ∃ n, (s n).isSome = true then s (Classical.choose h) else none

def Grow (s : Nat → Option α) : Prop := ∀ n m x, n ≤ m → s n = some x → s m = some x

theorem olim_some {s : Nat → Option α} {x : α} (h : olim s = some x) : ∃ n, s n = some x := by
  unfold olim at h
  split at h
  · exact ⟨_, h⟩
  · cases h

theorem olim_eq {s : Nat → Option α} (hg : Grow s) {n : Nat} {x : α} (h : s n = some x) : olim s = some x := by
  have he : ∃ n, (s n).isSome = true := ⟨n, by rw [h]; rfl⟩
  unfold olim
  rw [dif_pos he]
  have hc := Classical.choose_spec he
  obtain ⟨y, hy⟩ := Option.isSome_iff_exists.1 hc
  rw [hy]
  have h1 := hg _ _ _ (Nat.le_max_left n (Classical.choose he)) h
  have h2 := hg _ _ _ (Nat.le_max_right n (Classical.choose he)) hy
  rw [h1] at h2
  exact h2.symm

theorem opt_ext {x y : Option α} (h1 : ∀ a, x = some a → y = some a) (h2 : ∀ a, y = some a → x = some a) : x = y := by
  cases x with
  | none =>
    cases y with
    | none => rfl
    | some b => exact h2 b rfl
  | some a => exact (h1 a rfl).symm
end

/-- More is known. -/
def Le (E E' : Ev) : Prop := ∀ f as σ r, E f as σ = some r → E' f as σ = some r

section
variable {E E' : Ev} {s : Nat} {fr : Fr} {σ : St}

theorem pcall_mono (h : Le E E') {b : Bool} {f : Nat} {as : List PV} {r : PV × St} (he : pcall E b f as σ = some r) : pcall E' b f as σ = some r := by
  unfold pcall at he ⊢
  obtain ⟨as', h1, he⟩ := Option.bind_eq_some_iff.1 he
  obtain ⟨q, h2, he⟩ := Option.bind_eq_some_iff.1 he
  rw [h1]
  simp only [Option.bind_some]
  rw [h _ _ _ _ h2]
  exact he

theorem callE_mono (h : Le E E') {md : Mode} {f : Nat} {as : List PV} {r : PV × St} (he : callE E f md as σ = some r) : callE E' f md as σ = some r := by
  cases md with
  | strict => exact pcall_mono h he
  | pure => exact pcall_mono h he
  | opn => exact h _ _ _ _ he
  | imp => exact he

theorem icallE_mono (h : Le E E') {f : Nat} {as : List PV} {r : PV × St} (he : icallE E s f as σ = some r) : icallE E' s f as σ = some r := by
  unfold icallE at he ⊢
  obtain ⟨as', h1, he⟩ := Option.bind_eq_some_iff.1 he
  obtain ⟨q, h2, he⟩ := Option.bind_eq_some_iff.1 he
  rw [h1]
  simp only [Option.bind_some]
  rw [h _ _ _ _ h2]
  exact he

theorem evO_mono (h : Le E E') {po : PO} {r : PV × St} (he : evO E s fr σ po = some r) : evO E' s fr σ po = some r := by
  cases po with
  | call f md as => exact callE_mono h he
  | icall f as => exact icallE_mono h he
  | inv tb md f as =>
    simp only [evO] at he ⊢
    split at he
    · split at he
      · exact callE_mono h he
      · cases he
    · cases he
  | callv f md as =>
    simp only [evO] at he ⊢
    split at he
    · exact callE_mono h he
    · cases he
  | _ => exact he

theorem ev1_mono (h : Le E E') {o : POp} {r : Fr × St} (he : ev1 E o fr σ = some r) : ev1 E' o fr σ = some r := by
  unfold ev1 stp at he ⊢
  obtain ⟨q, hq, rfl⟩ := Option.map_eq_some_iff.1 he
  refine Option.map_eq_some_iff.2 ⟨q, ?_, rfl⟩
  split at hq
  · exact evO_mono h hq
  · split at hq
    · split at hq
      · rename_i hb; rw [if_pos hb]; exact evO_mono h hq
      · rename_i hb; rw [if_neg hb]; exact hq
    · exact hq
    · cases hq

theorem evOs_mono (h : Le E E') : ∀ {ops : List POp} {fr : Fr} {σ : St} {r : Fr × St}, evOs E ops fr σ = some r → evOs E' ops fr σ = some r
  | [], _, _, _, he => he
  | o :: ops, fr, σ, r, he => by
    simp only [evOs] at he ⊢
    obtain ⟨q, hq, he⟩ := Option.bind_eq_some_iff.1 he
    rw [ev1_mono h hq]
    exact evOs_mono h he

theorem both_mono (h : Le E E') {a b : List POp} {fr : Fr} {σ : St} {r : Fr × St} (he : evBoth E a b fr σ = some r) : evBoth E' a b fr σ = some r := by
  rw [both_some] at he ⊢
  exact ⟨evOs_mono h he.1, evOs_mono h he.2⟩

theorem rounds_mono {f g : Fr → St → Option (X × Fr × St)} (h : ∀ fr σ r, f fr σ = some r → g fr σ = some r) : ∀ {n m : Nat} {fr : Fr} {σ : St} {r : X × Fr × St}, n ≤ m → rounds f n fr σ = some r → rounds g m fr σ = some r
  | 0, _, _, _, _, _, he => by simp [rounds] at he
  | n + 1, 0, _, _, _, hl, _ => by omega
  | n + 1, m + 1, fr, σ, r, hl, he => by
    simp only [rounds] at he ⊢
    obtain ⟨⟨x, fr1, σ1⟩, hq, he⟩ := Option.bind_eq_some_iff.1 he
    rw [h _ _ _ hq]
    cases x with
    | normal => exact rounds_mono h (by omega) he
    | exit id => exact he
    | ret => exact he

theorem evC_mono (h : Le E E') {k k' : Nat} (hk : k ≤ k') : ∀ {pc : PC} {fr : Fr} {σ : St} {r : X × Fr × St}, evC E k pc fr σ = some r → evC E' k' pc fr σ = some r := by
  intro pc
  induction pc with
  | skip => intro fr σ r he; exact he
  | seq a b iha ihb =>
    intro fr σ r he
    simp only [evC] at he ⊢
    obtain ⟨⟨x, fr1, σ1⟩, hq, he⟩ := Option.bind_eq_some_iff.1 he
    rw [iha hq]
    cases x with
    | normal => exact ihb he
    | exit id => exact he
    | ret => exact he
  | cond c t e iht ihe =>
    intro fr σ r he
    simp only [evC] at he ⊢
    split at he
    · rename_i hb; exact iht he
    · rename_i hb; exact ihe he
    · cases he
  | block id b ih =>
    intro fr σ r he
    simp only [evC] at he ⊢
    obtain ⟨q, hq, he⟩ := Option.map_eq_some_iff.1 he
    rw [ih hq, ← he]; rfl
  | loop b ih =>
    intro fr σ r he
    simp only [evC] at he ⊢
    exact rounds_mono (fun _ _ _ h => ih h) hk he
  | exit id => intro fr σ r he; exact he
  | ret => intro fr σ r he; exact he
  | rg d ops =>
    intro fr σ r he
    simp only [evC] at he ⊢
    obtain ⟨q, hq, he⟩ := Option.map_eq_some_iff.1 he
    rw [evOs_mono h hq, ← he]; rfl
  | rg2 a b =>
    intro fr σ r he
    simp only [evC] at he ⊢
    obtain ⟨q, hq, he⟩ := Option.map_eq_some_iff.1 he
    rw [both_mono h hq, ← he]; rfl

theorem evF_mono {env : Nat → Option Def} : ∀ {n m : Nat}, n ≤ m → Le (evF env n) (evF env m)
  | 0, _, _ => fun f as σ r he => by simp [evF] at he
  | n + 1, 0, hl => by omega
  | n + 1, m + 1, hl => fun f as σ r he => by
    simp only [evF] at he ⊢
    split at he
    · cases he
    · exact he
    · split at he
      · rename_i hn
        rw [if_pos hn]
        obtain ⟨q, hq, he⟩ := Option.bind_eq_some_iff.1 he
        rw [evC_mono (evF_mono (show n ≤ m by omega)) (show n ≤ m by omega) hq]
        exact he
      · cases he

end

section
variable {env : Nat → Option Def} {fr : Fr} {σ : St}

/-- What a call comes to. -/
noncomputable def EV (env : Nat → Option Def) : Ev := fun f as σ => olim fun n => evF env n f as σ

/-- What code comes to. -/
noncomputable def EC (env : Nat → Option Def) (pc : PC) (fr : Fr) (σ : St) : Option (X × Fr × St) := olim fun n => evC (evF env n) n pc fr σ

theorem grow_evF (f : Nat) (as : List PV) : Grow fun n => evF env n f as σ := fun _ _ _ h he => evF_mono h _ _ _ _ he
theorem grow_evC (pc : PC) : Grow fun n => evC (evF env n) n pc fr σ := fun _ _ _ h he => evC_mono (evF_mono h) h he

theorem EV_some {f : Nat} {as : List PV} {r : PV × St} (h : EV env f as σ = some r) : ∃ n, evF env n f as σ = some r := olim_some h
theorem EC_some {pc : PC} {r : X × Fr × St} (h : EC env pc fr σ = some r) : ∃ n, evC (evF env n) n pc fr σ = some r := olim_some h
theorem EV_of {f : Nat} {as : List PV} {r : PV × St} {n : Nat} (h : evF env n f as σ = some r) : EV env f as σ = some r := olim_eq (grow_evF f as) h
theorem EC_of {pc : PC} {r : X × Fr × St} {n : Nat} (h : evC (evF env n) n pc fr σ = some r) : EC env pc fr σ = some r := olim_eq (grow_evC pc) h
theorem le_EV (n : Nat) : Le (evF env n) (EV env) := fun _ _ _ _ h => EV_of h

theorem pcall_fin {b : Bool} {f : Nat} {as : List PV} {r : PV × St} (he : pcall (EV env) b f as σ = some r) : ∃ n, pcall (evF env n) b f as σ = some r := by
  unfold pcall at he ⊢
  obtain ⟨as', h1, he⟩ := Option.bind_eq_some_iff.1 he
  obtain ⟨q, h2, he⟩ := Option.bind_eq_some_iff.1 he
  obtain ⟨n, hn⟩ := EV_some h2
  exact ⟨n, by rw [h1]; simp only [Option.bind_some]; rw [hn]; exact he⟩

theorem callE_fin {md : Mode} {f : Nat} {as : List PV} {r : PV × St} (he : callE (EV env) f md as σ = some r) : ∃ n, callE (evF env n) f md as σ = some r := by
  cases md with
  | strict => exact pcall_fin he
  | pure => exact pcall_fin he
  | opn => exact EV_some he
  | imp => exact ⟨0, he⟩

theorem icallE_fin {s f : Nat} {as : List PV} {r : PV × St} (he : icallE (EV env) s f as σ = some r) : ∃ n, icallE (evF env n) s f as σ = some r := by
  unfold icallE at he ⊢
  obtain ⟨as', h1, he⟩ := Option.bind_eq_some_iff.1 he
  obtain ⟨q, h2, he⟩ := Option.bind_eq_some_iff.1 he
  obtain ⟨n, hn⟩ := EV_some h2
  exact ⟨n, by rw [h1]; simp only [Option.bind_some]; rw [hn]; exact he⟩

theorem evO_fin {s : Nat} {po : PO} {r : PV × St} (he : evO (EV env) s fr σ po = some r) : ∃ n, evO (evF env n) s fr σ po = some r := by
  cases po with
  | call f md as => exact callE_fin he
  | icall f as => exact icallE_fin he
  | inv tb md f as =>
    simp only [evO] at he ⊢
    split at he
    · split at he
      · exact callE_fin he
      · cases he
    · cases he
  | callv f md as =>
    simp only [evO] at he ⊢
    split at he
    · exact callE_fin he
    · cases he
  | _ => exact ⟨0, he⟩

theorem ev1_fin {o : POp} {r : Fr × St} (he : ev1 (EV env) o fr σ = some r) : ∃ n, ev1 (evF env n) o fr σ = some r := by
  unfold ev1 stp at he ⊢
  obtain ⟨q, hq, rfl⟩ := Option.map_eq_some_iff.1 he
  split at hq
  · obtain ⟨n, hn⟩ := evO_fin hq
    exact ⟨n, by rw [hn]; rfl⟩
  · split at hq
    · split at hq
      · rename_i hb
        obtain ⟨n, hn⟩ := evO_fin hq
        exact ⟨n, by rw [if_pos hb, hn]; rfl⟩
      · rename_i hb
        exact ⟨0, by rw [if_neg hb, hq]; rfl⟩
    · exact ⟨0, by rw [hq]; rfl⟩
    · cases hq

theorem evOs_fin : ∀ {ops : List POp} {fr : Fr} {σ : St} {r : Fr × St}, evOs (EV env) ops fr σ = some r → ∃ n, evOs (evF env n) ops fr σ = some r
  | [], _, _, _, he => ⟨0, he⟩
  | o :: ops, fr, σ, r, he => by
    simp only [evOs] at he ⊢
    obtain ⟨q, hq, he⟩ := Option.bind_eq_some_iff.1 he
    obtain ⟨n, hn⟩ := ev1_fin hq
    obtain ⟨m, hm⟩ := evOs_fin he
    exact ⟨max n m, by rw [ev1_mono (evF_mono (Nat.le_max_left n m)) hn]; exact evOs_mono (evF_mono (Nat.le_max_right n m)) hm⟩

theorem EC_skip : EC env .skip fr σ = some (.normal, fr, σ) := EC_of (n := 0) rfl
theorem EC_exit (id : Nat) : EC env (.exit id) fr σ = some (.exit id, fr, σ) := EC_of (n := 0) rfl
theorem EC_ret : EC env .ret fr σ = some (.ret, fr, σ) := EC_of (n := 0) rfl

theorem EC_rg (d : Bool) (ops : List POp) : EC env (.rg d ops) fr σ = (evOs (EV env) ops fr σ).map fun q => (.normal, q.1, q.2) := by
  apply opt_ext
  · intro r h
    obtain ⟨n, hn⟩ := EC_some h
    simp only [evC] at hn
    obtain ⟨q, hq, rfl⟩ := Option.map_eq_some_iff.1 hn
    rw [evOs_mono (le_EV n) hq]; rfl
  · intro r h
    obtain ⟨q, hq, rfl⟩ := Option.map_eq_some_iff.1 h
    obtain ⟨n, hn⟩ := evOs_fin hq
    exact EC_of (n := n) (by simp only [evC]; rw [hn]; rfl)

theorem EC_rg2 (a b : List POp) : EC env (.rg2 a b) fr σ = (evBoth (EV env) a b fr σ).map fun q => (.normal, q.1, q.2) := by
  apply opt_ext
  · intro r h
    obtain ⟨n, hn⟩ := EC_some h
    simp only [evC] at hn
    obtain ⟨q, hq, rfl⟩ := Option.map_eq_some_iff.1 hn
    rw [both_mono (le_EV n) hq]; rfl
  · intro r h
    obtain ⟨q, hq, rfl⟩ := Option.map_eq_some_iff.1 h
    obtain ⟨h1, h2⟩ := both_some.1 hq
    obtain ⟨n, hn⟩ := evOs_fin h1
    obtain ⟨m, hm⟩ := evOs_fin h2
    exact EC_of (n := max n m) (by
      simp only [evC]
      rw [both_some.2 ⟨evOs_mono (evF_mono (Nat.le_max_left n m)) hn, evOs_mono (evF_mono (Nat.le_max_right n m)) hm⟩]; rfl)

theorem EC_seq (a b : PC) : EC env (.seq a b) fr σ = (EC env a fr σ).bind fun
    | (.normal, fr', σ') => EC env b fr' σ'
    | r => some r := by
  apply opt_ext
  · intro r h
    obtain ⟨n, hn⟩ := EC_some h
    simp only [evC] at hn
    obtain ⟨⟨x, fr1, σ1⟩, hq, hn⟩ := Option.bind_eq_some_iff.1 hn
    rw [EC_of hq]
    cases x with
    | normal => exact EC_of hn
    | exit id => exact hn
    | ret => exact hn
  · intro r h
    obtain ⟨⟨x, fr1, σ1⟩, hq, h⟩ := Option.bind_eq_some_iff.1 h
    obtain ⟨n, hn⟩ := EC_some hq
    cases x with
    | normal =>
      obtain ⟨m, hm⟩ := EC_some h
      exact EC_of (n := max n m) (by simp only [evC]; rw [evC_mono (evF_mono (Nat.le_max_left n m)) (Nat.le_max_left n m) hn]; exact evC_mono (evF_mono (Nat.le_max_right n m)) (Nat.le_max_right n m) hm)
    | exit id => exact EC_of (n := n) (by simp only [evC]; rw [hn]; exact h)
    | ret => exact EC_of (n := n) (by simp only [evC]; rw [hn]; exact h)

theorem EC_cond (c : PA) (t e : PC) : EC env (.cond c t e) fr σ = match pa fr c with
    | .sc (.bool true) => EC env t fr σ
    | .sc (.bool false) => EC env e fr σ
    | _ => none := by
  apply opt_ext
  · intro r h
    obtain ⟨n, hn⟩ := EC_some h
    simp only [evC] at hn
    split at hn
    · rename_i hb; simp only [hb]; exact EC_of hn
    · rename_i hb; simp only [hb]; exact EC_of hn
    · cases hn
  · intro r h
    split at h
    · rename_i hb
      obtain ⟨n, hn⟩ := EC_some h
      exact EC_of (n := n) (by simp only [evC, hb]; exact hn)
    · rename_i hb
      obtain ⟨n, hn⟩ := EC_some h
      exact EC_of (n := n) (by simp only [evC, hb]; exact hn)
    · cases h

theorem EC_block (id : Nat) (b : PC) : EC env (.block id b) fr σ = (EC env b fr σ).map fun
    | (.exit i, fr', σ') => (if i = id then .normal else .exit i, fr', σ')
    | r => r := by
  apply opt_ext
  · intro r h
    obtain ⟨n, hn⟩ := EC_some h
    simp only [evC] at hn
    obtain ⟨q, hq, rfl⟩ := Option.map_eq_some_iff.1 hn
    rw [EC_of hq]; rfl
  · intro r h
    obtain ⟨q, hq, rfl⟩ := Option.map_eq_some_iff.1 h
    obtain ⟨n, hn⟩ := EC_some hq
    exact EC_of (n := n) (by simp only [evC]; rw [hn]; rfl)

theorem EC_loop (b : PC) : EC env (.loop b) fr σ = (EC env b fr σ).bind fun
    | (.normal, fr', σ') => EC env (.loop b) fr' σ'
    | r => some r := by
  apply opt_ext
  · intro r h
    obtain ⟨n, hn⟩ := EC_some h
    simp only [evC] at hn
    cases n with
    | zero => simp [rounds] at hn
    | succ n =>
      simp only [rounds] at hn
      obtain ⟨⟨x, fr1, σ1⟩, hq, hn⟩ := Option.bind_eq_some_iff.1 hn
      rw [EC_of hq]
      cases x with
      | normal =>
        refine EC_of (n := n + 1) ?_
        simp only [evC]
        exact rounds_mono (fun _ _ _ h => h) (Nat.le_succ n) hn
      | exit id => exact hn
      | ret => exact hn
  · intro r h
    obtain ⟨⟨x, fr1, σ1⟩, hq, h⟩ := Option.bind_eq_some_iff.1 h
    obtain ⟨n, hn⟩ := EC_some hq
    cases x with
    | normal =>
      obtain ⟨m, hm⟩ := EC_some h
      refine EC_of (n := max n m + 1) ?_
      simp only [evC, rounds] at hm ⊢
      rw [evC_mono (evF_mono (Nat.le_trans (Nat.le_max_left n m) (Nat.le_succ _))) (Nat.le_trans (Nat.le_max_left n m) (Nat.le_succ _)) hn]
      exact rounds_mono (fun _ _ _ h => evC_mono (evF_mono (Nat.le_trans (Nat.le_max_right n m) (Nat.le_succ _))) (Nat.le_trans (Nat.le_max_right n m) (Nat.le_succ _)) h) (Nat.le_max_right n m) hm
    | exit id => exact EC_of (n := n + 1) (by simp only [evC, rounds]; rw [evC_mono (evF_mono (Nat.le_succ n)) (Nat.le_succ n) hn]; exact h)
    | ret => exact EC_of (n := n + 1) (by simp only [evC, rounds]; rw [evC_mono (evF_mono (Nat.le_succ n)) (Nat.le_succ n) hn]; exact h)

theorem EV_prim {f : Nat} {p : List PV → St → Option (PV × St)} (h : env f = some (.prim p)) (as : List PV) : EV env f as σ = p as σ := by
  apply opt_ext
  · intro r he
    obtain ⟨n, hn⟩ := EV_some he
    cases n with
    | zero => simp [evF] at hn
    | succ n => simp only [evF, h] at hn; exact hn
  · intro r he
    exact EV_of (n := 1) (by simp only [evF, h]; exact he)

/-- What a function answers, of how its body ended. -/
def backOf (res : List PR) : X × Fr × St → Option (PV × St)
  | (.normal, fr, σ') | (.ret, fr, σ') => (retOf fr σ' res).map fun v => (v, σ')
  | _ => none

theorem EV_code {f np : Nat} {res : List PR} {body : PC} (h : env f = some (.code np res body)) (as : List PV) (hl : as.length = np) : EV env f as σ = (EC env body (frOf as) σ).bind (backOf res) := by
  apply opt_ext
  · intro r he
    obtain ⟨n, hn⟩ := EV_some he
    cases n with
    | zero => simp [evF] at hn
    | succ n =>
      simp only [evF, h] at hn
      rw [if_pos hl] at hn
      obtain ⟨⟨x, fr1, σ1⟩, hq, hn⟩ := Option.bind_eq_some_iff.1 hn
      rw [EC_of hq]
      cases x <;> exact hn
  · intro r he
    obtain ⟨⟨x, fr1, σ1⟩, hq, he⟩ := Option.bind_eq_some_iff.1 he
    obtain ⟨n, hn⟩ := EC_some hq
    refine EV_of (n := n + 1) ?_
    simp only [evF, h]
    rw [if_pos hl, hn]
    cases x <;> exact he

end
attribute [irreducible] EV EC
end Go.Proofs.YtcpgkdaicglogaaGreatDoorPv
