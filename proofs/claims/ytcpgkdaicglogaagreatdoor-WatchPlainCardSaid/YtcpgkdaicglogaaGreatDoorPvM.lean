/-
append.
-/
import Derived.Test.YtcpgkdaicglogaaGreatDoorPvK
namespace Go.Proofs.YtcpgkdaicglogaaGreatDoorPv
open Go Go.RowKit

section
variable {km : Km} {P : Program} {A : Ann} {cx : Cx km} {K : Nat → Nat → Option Nat} {σ σ' : St} {w : World} {E : Ev} {s : Nat} {fr : Fr} {a : Act} {o : Oper} {po : PO} {r : PV}

/-- Less may be known, and less be allowed. -/
theorem inv_weaken (hi : Inv km cx K σ w) (hc : σ'.c = σ.c) (hm : ∀ o g x', σ'.m o g = some x' → ∃ x, σ.m o g = some x ∧ x'.es = x.es ∧ x'.xs = x.xs ∧ (x'.al = true → x.al = true) ∧ (x'.wr = true → x.wr = true))  (hmm : σ'.mm = σ.mm := by rfl) :
    Inv km cx K σ' w ∧ Ext cx K σ w K σ' w := by
  have hst : ∀ a, Stab cx K σ w a → Stab cx K σ' w a := by
    intro a ha
    rcases ha with h | ⟨h1, h2, h3⟩
    · exact .inl h
    · refine .inr ⟨h1, h2, fun o g x' hx' hal hk => ?_⟩
      obtain ⟨x, q1, q2, q3, q4, q5⟩ := hm o g x' hx'
      obtain ⟨r1, r2⟩ := h3 o g x q1 (q4 hal) hk
      refine ⟨?_, by rw [q2, q3]; exact r2⟩
      cases hw : x'.wr with
      | false => rfl
      | true => rw [q5 hw] at r1; cases r1
  have hext : Ext cx K σ w K σ' w := ⟨fun _ _ _ h => h, fun _ _ _ h => h, fun a h _ => hst a h, fun _ h => h⟩
  refine ⟨⟨hi.bel, hi.kb, fun o g b h => by rw [hc]; exact hi.iss o g b h, fun o g x' h => ?_, fun o g x' b h1 h2 h3 => ?_, fun o g x' o2 g2 x2 b h1 h2 h3 h4 h5 h6 => ?_, hi.bld, fun o g l h => ?_, fun o g l o' g' l' b h1 h2 h3 h4 => hi.mdis o g l o' g' l' b (by rw [← hmm]; exact h1) h2 (by rw [← hmm]; exact h3) h4⟩, hext⟩
  · obtain ⟨x, q1, q2, q3, q4, q5⟩ := hm o g x' h
    obtain ⟨b, h1, h2⟩ := hi.dom o g x q1
    have hl : ∀ (i : Nat) e, x'.xs[i]? = some e → (cellsOf e).length = x'.es := fun i e he => by rw [q2]; rw [q3] at he; exact h2.len i e he
    refine ⟨b, h1, hl, fun i j e p he hp => ?_⟩
    have hin := cell_in_obj hl he hp
    rw [q3] at he
    obtain ⟨v, c1, c2, c3, c4⟩ := h2.cell i j e p he hp
    rw [q2]
    rw [q2] at hin
    refine ⟨v, c1, c2, hext.rep c3, fun hf => ?_⟩
    by_cases hb : (x.al && x.wr) = false
    · exact hst _ (c4 hb)
    · simp only [Bool.not_eq_false, Bool.and_eq_true] at hb
      refine .inr ⟨(hi.kb _ _ _ h1).1, (hi.kb _ _ _ h1).2, fun o2 g2 x2' hx2 hal2 hk2 => ?_⟩
      obtain ⟨x2, s1, s2, s3, s4, s5⟩ := hm o2 g2 x2' hx2
      obtain ⟨rfl, rfl⟩ := hi.dis o2 g2 x2 o g x b s1 (s4 hal2) hk2 q1 hb.1 h1
      rw [h] at hx2
      simp only [Option.some.injEq] at hx2
      subst hx2
      refine ⟨?_, by rw [q2]; exact hin⟩
      simpa [hal2] using hf
  · obtain ⟨x, q1, q2, q3, q4, q5⟩ := hm o g x' h1
    obtain ⟨e1, e2⟩ := hi.alv o g x b q1 (q4 h2) h3
    refine ⟨e1, fun off hf => ?_⟩
    obtain ⟨r1, r2⟩ := e2 off hf
    refine ⟨?_, by rw [q2, q3]; exact r2⟩
    cases hw : x'.wr with
    | false => rfl
    | true => rw [q5 hw] at r1; cases r1
  · obtain ⟨x, q1, _, _, q4, _⟩ := hm o g x' h1
    obtain ⟨y, r1, _, _, r4, _⟩ := hm o2 g2 x2 h4
    exact hi.dis o g x o2 g2 y b q1 (q4 h2) h3 r1 (r4 h5) h6
  · rw [hmm] at h
    obtain ⟨b, r1, r2⟩ := hi.mdom o g l h
    exact ⟨b, r1, r2.ext hext rfl⟩

theorem inv_room {b : Nat} (hs : SiteOk km w s b) (hi : Inv km cx K σ w) {o1 g1 : Nat} {y : Obj} {wr' : Bool} (hm : σ.m o1 g1 = some y) (hal : y.al = true) (hk : K o1 g1 = some b) (vs : List Value) (zs : List PV)
    (hsm : ∀ k, k < vs.length → (w.cell? ⟨b, y.xs.length * y.es + k, none⟩).isSome = true) (hone : ∀ v ∈ vs, v.oneCell' = true)
    (hlen : ∀ (i : Nat) e, zs[i]? = some e → (cellsOf e).length = y.es)
    (hc : ∀ (i j : Nat) e p, zs[i]? = some e → (cellsOf e)[j]? = some p → ∃ v, vs[i * y.es + j]? = some v ∧ RepS km cx K σ w v p)
    (hm' : ∀ o' g' x', σ'.m o' g' = some x' → (o' = s ∧ g' = σ.c s ∧ x' = ⟨y.es, y.xs ++ zs, true, wr'⟩) ∨ (o' = o1 ∧ g' = g1 ∧ ¬ (o' = s ∧ g' = σ.c s) ∧ x' = { y with al := false, wr := false }) ∨
      (¬ (o' = o1 ∧ g' = g1) ∧ ¬ (o' = s ∧ g' = σ.c s) ∧ σ.m o' g' = some x'))
    (hwr : wr' = true → y.wr = true ∧ ∀ x', σ'.m o1 g1 = some x' → o1 = s ∧ g1 = σ.c s) (hcc : σ'.c = fun s' => if s' = s then σ.c s + 1 else σ.c s') (hmm : σ'.mm = σ.mm := by rfl) :
    Inv km cx (Kput K s (σ.c s) b) σ' (w.setCells b (y.xs.length * y.es) vs) ∧ Ext cx K σ w (Kput K s (σ.c s) b) σ' (w.setCells b (y.xs.length * y.es) vs) := by
  have hkb := hi.kb _ _ _ hk
  obtain ⟨b', hk', hcells⟩ := hi.dom _ _ _ hm
  obtain rfl : b' = b := by rw [hk] at hk'; simpa using hk'.symm
  have hinl : ∀ j (hj : j < vs.length), (w.setCells b' (y.xs.length * y.es) vs).cell? ⟨b', y.xs.length * y.es + j, none⟩ = some vs[j] := World.cell?_setCells_in b' vs _ w hsm
  have hout : ∀ a, a.block ≠ b' ∨ a.off < y.xs.length * y.es → (w.setCells b' (y.xs.length * y.es) vs).cell? a = w.cell? a := fun a ha => World.cell?_setCells_out b' vs _ w a (fun h _ => by
    rcases ha with h1 | h1
    · exact absurd h h1
    · exact .inl h1)
  have hsb : ∀ a, Stab cx K σ w a → (a.block ≠ b' ∨ (y.wr = false ∧ a.off < y.xs.length * y.es)) := by
    intro a ha
    by_cases hab : a.block = b'
    · rcases ha with ⟨h1, _⟩ | ⟨_, _, h3⟩
      · omega
      · exact .inr (h3 o1 g1 y hm hal (by rw [hab]; exact hk))
    · exact .inl hab
  have hsome : ∀ a, (w.cell? a).isSome = true → ((w.setCells b' (y.xs.length * y.es) vs).cell? a).isSome = true := by
    intro a ha
    by_cases hab : a.block = b'
    · by_cases hsp : a.spot = none
      · by_cases hr : a.off < y.xs.length * y.es ∨ y.xs.length * y.es + vs.length ≤ a.off
        · rw [World.cell?_setCells_out b' vs _ w a (fun _ _ => hr)]; exact ha
        · obtain ⟨ab, ao, as⟩ := a
          simp only at hab hsp hr
          subst hab hsp
          have := hinl (ao - y.xs.length * y.es) (by omega)
          rw [show y.xs.length * y.es + (ao - y.xs.length * y.es) = ao by omega] at this
          rw [this]; rfl
      · rw [World.cell?_setCells_out b' vs _ w a (fun _ h => absurd h hsp)]; exact ha
    · rw [hout a (.inl hab)]; exact ha
  have hwf : y.wr = false → wr' = false := by
    intro h
    cases hw : wr' with
    | false => rfl
    | true => rw [(hwr hw).1] at h; cases h
  have hle : y.xs.length * y.es ≤ (y.xs ++ zs).length * y.es := Nat.mul_le_mul_right _ (by simp)
  have hst : ∀ a, Stab cx K σ w a → Stab cx (Kput K s (σ.c s) b') σ' (w.setCells b' (y.xs.length * y.es) vs) a := by
    intro a ha
    have hne := hsb a ha
    rcases ha with h1 | ⟨h1, h2, h3⟩
    · exact .inl h1
    · refine .inr ⟨h1, by rw [setCells_size]; exact h2, fun o g x hx hal' hk'' => ?_⟩
      rcases hm' o g x hx with ⟨rfl, rfl, rfl⟩ | ⟨_, _, _, rfl⟩ | ⟨_, hns, hx'⟩
      · rw [Kput_new] at hk''
        simp only [Option.some.injEq] at hk''
        rcases hne with h | ⟨h4, h5⟩
        · exact absurd hk''.symm h
        · exact ⟨hwf h4, Nat.lt_of_lt_of_le h5 hle⟩
      · cases hal'
      · rcases Kput_inv hk'' with ⟨q1, q2, _⟩ | ⟨_, q⟩
        · exact absurd ⟨q1, q2⟩ hns
        · exact h3 o g x hx' hal' q
  have hext : Ext cx K σ w (Kput K s (σ.c s) b') σ' (w.setCells b' (y.xs.length * y.es) vs) :=
    ⟨fun _ _ _ h => Kput_old hi h, fun a v hs hv => by
      rw [hout a ((hsb a hs).elim Or.inl fun h => .inr h.2)]; exact hv, fun a hs _ => hst a hs, hsome⟩
  have hmine : ∀ k, wr' = false → k < (y.xs ++ zs).length * y.es → Stab cx (Kput K s (σ.c s) b') σ' (w.setCells b' (y.xs.length * y.es) vs) ⟨b', k, none⟩ := by
    intro k hw hk2
    refine .inr ⟨hkb.1, by rw [setCells_size]; exact hkb.2, fun o g x hx hal' hk'' => ?_⟩
    rcases hm' o g x hx with ⟨rfl, rfl, rfl⟩ | ⟨_, _, _, rfl⟩ | ⟨hno, hns, hx'⟩
    · exact ⟨hw, hk2⟩
    · cases hal'
    · rcases Kput_inv hk'' with ⟨q1, q2, _⟩ | ⟨_, q⟩
      · exact absurd ⟨q1, q2⟩ hns
      · exact absurd (hi.dis o g x o1 g1 y b' hx' hal' q hm hal hk) hno
  refine ⟨⟨setCells_below hkb.1 vs _ w hi.bel, fun o g c h => ?_, fun o g c h => ?_, fun o g x h => ?_, fun o g x c q1 q2 q3 => ?_, fun o g x o' g' x' c q1 q2 q3 q4 q5 q6 => ?_, fun o g c h => ?_, fun o g l h => ?_, fun o g l o' g' l' c q1 q2 q3 q4 => ?_⟩, hext⟩
  · rw [setCells_size]
    rcases Kput_inv h with ⟨_, _, rfl⟩ | ⟨_, h⟩
    · exact hkb
    · exact hi.kb o g c h
  · rw [hcc]
    rcases Kput_inv h with ⟨rfl, rfl, _⟩ | ⟨_, h⟩
    · simp
    · have := hi.iss o g c h
      simp only
      split
      · rename_i ho; subst ho; omega
      · exact this
  · rcases hm' o g x h with ⟨rfl, rfl, rfl⟩ | ⟨rfl, rfl, hns, rfl⟩ | ⟨hno, hns, hx'⟩
    · have hl : ∀ (i : Nat) e, (y.xs ++ zs)[i]? = some e → (cellsOf e).length = y.es := by
        intro i e he
        by_cases hlt : i < y.xs.length
        · rw [List.getElem?_append_left hlt] at he; exact hcells.len i e he
        · rw [List.getElem?_append_right (by omega)] at he; exact hlen _ e he
      refine ⟨b', Kput_new, hl, fun i j e p he hp => ?_⟩
      have hin : i * y.es + j < (y.xs ++ zs).length * y.es := cell_in_obj (x := ⟨y.es, y.xs ++ zs, true, wr'⟩) hl he hp
      by_cases hlt : i < y.xs.length
      · simp only at he
        rw [List.getElem?_append_left hlt] at he
        obtain ⟨v, c1, c2, c3, c4⟩ := hcells.cell i j e p he hp
        have hin' := cell_in_obj hcells.len he hp
        exact ⟨v, by rw [hout _ (.inr hin')]; exact c1, c2, hext.rep c3, fun hf => hmine _ (by simpa using hf) hin⟩
      · simp only at he
        rw [List.getElem?_append_right (by omega)] at he
        obtain ⟨v, c1, c3⟩ := hc _ j e p he hp
        have hj := (List.getElem?_eq_some_iff.1 c1).1
        have := hinl _ hj
        have hsum : y.xs.length * y.es + ((i - y.xs.length) * y.es + j) = i * y.es + j := by
          rw [← Nat.add_assoc, ← Nat.add_mul]; congr 2; omega
        rw [hsum] at this
        have hv : vs[(i - y.xs.length) * y.es + j] = v := by rw [List.getElem?_eq_getElem hj] at c1; simpa using c1
        rw [hv] at this
        exact ⟨v, this, hone v (List.mem_of_getElem? c1), hext.rep c3, fun hf => hmine _ (by simpa using hf) hin⟩
    · refine ⟨b', Kput_old hi hk, hcells.len, fun i j e p he hp => ?_⟩
      obtain ⟨v, c1, c2, c3, c4⟩ := hcells.cell i j e p he hp
      have hin' := cell_in_obj hcells.len he hp
      refine ⟨v, by rw [hout _ (.inr hin')]; exact c1, c2, hext.rep c3, fun _ => hmine _ ?_ (Nat.lt_of_lt_of_le hin' hle)⟩
      cases hw : wr' with
      | false => rfl
      | true => exact absurd ((hwr hw).2 _ h) hns
    · obtain ⟨c, r1, r2⟩ := hi.dom o g x hx'
      refine ⟨c, Kput_old hi r1, r2.len, fun i j e p he hp => ?_⟩
      obtain ⟨v, c1, c2, c3, c4⟩ := r2.cell i j e p he hp
      have hcell : (w.setCells b' (y.xs.length * y.es) vs).cell? ⟨c, i * x.es + j, none⟩ = w.cell? ⟨c, i * x.es + j, none⟩ := by
        by_cases hb : (x.al && x.wr) = false
        · exact hout _ ((hsb _ (c4 hb)).elim Or.inl fun h => .inr h.2)
        · simp only [Bool.not_eq_false, Bool.and_eq_true] at hb
          refine hout _ (.inl ?_)
          rintro rfl
          exact hno (hi.dis o g x o1 g1 y _ hx' hb.1 r1 hm hal hk)
      exact ⟨v, by rw [hcell]; exact c1, c2, hext.rep c3, fun hf => hst _ (c4 hf)⟩
  · rcases hm' o g x q1 with ⟨rfl, rfl, rfl⟩ | ⟨_, _, _, rfl⟩ | ⟨hno, hns, hx'⟩
    · rw [Kput_new] at q3
      simp only [Option.some.injEq] at q3
      subst q3
      obtain ⟨⟨d, t, fr, h4⟩, h5⟩ := hi.alv o1 g1 y b' hm hal hk
      obtain ⟨d', h6⟩ := setCells_heap b' vs (y.xs.length * y.es) w b' d t fr h4
      refine ⟨⟨d', t, fr, h6⟩, fun k hf => ?_⟩
      rw [World.frozen?_setCells] at hf
      obtain ⟨s1, s2⟩ := h5 k hf
      exact ⟨hwf s1, Nat.lt_of_lt_of_le s2 hle⟩
    · cases q2
    · rcases Kput_inv q3 with ⟨r1, r2, _⟩ | ⟨_, hk2⟩
      · exact absurd ⟨r1, r2⟩ hns
      · obtain ⟨⟨d, t, fr, h4⟩, h5⟩ := hi.alv o g x c hx' q2 hk2
        obtain ⟨d', h6⟩ := setCells_heap b' vs (y.xs.length * y.es) w c d t fr h4
        exact ⟨⟨d', t, fr, h6⟩, fun k hf => h5 k (by rw [World.frozen?_setCells] at hf; exact hf)⟩
  · have other : ∀ o g x, ¬ (o = o1 ∧ g = g1) → σ.m o g = some x → x.al = true → K o g ≠ some b' := fun o g x hno hx ha hkk => hno (hi.dis o g x o1 g1 y b' hx ha hkk hm hal hk)
    rcases hm' o g x q1 with ⟨rfl, rfl, rfl⟩ | ⟨_, _, _, rfl⟩ | ⟨hno, hns, hx'⟩
    · rw [Kput_new] at q3
      simp only [Option.some.injEq] at q3
      subst q3
      rcases hm' o' g' x' q4 with ⟨rfl, rfl, rfl⟩ | ⟨_, _, _, rfl⟩ | ⟨hno', hns', hx''⟩
      · exact ⟨rfl, rfl⟩
      · cases q5
      · rcases Kput_inv q6 with ⟨r1, r2, _⟩ | ⟨_, hk2⟩
        · exact absurd ⟨r1, r2⟩ hns'
        · exact absurd hk2 (other _ _ _ hno' hx'' q5)
    · cases q2
    · rcases Kput_inv q3 with ⟨r1, r2, _⟩ | ⟨_, hk2⟩
      · exact absurd ⟨r1, r2⟩ hns
      · rcases hm' o' g' x' q4 with ⟨rfl, rfl, rfl⟩ | ⟨_, _, _, rfl⟩ | ⟨hno', hns', hx''⟩
        · rw [Kput_new] at q6
          simp only [Option.some.injEq] at q6
          subst q6
          exact absurd hk2 (other _ _ _ hno hx' q2)
        · cases q5
        · rcases Kput_inv q6 with ⟨r1, r2, _⟩ | ⟨_, hk3⟩
          · exact absurd ⟨r1, r2⟩ hns'
          · exact hi.dis _ _ _ _ _ _ _ hx' q2 hk2 hx'' q5 hk3
  · rcases Kput_inv h with ⟨r1, _, r2⟩ | ⟨_, hk2⟩
    · rw [r1, r2]; exact hs.same (shape_setCells _ _ _ _ _)
    · exact (hi.bld o g c hk2).same (shape_setCells _ _ _ _ _)
  · rw [hmm] at h
    obtain ⟨c, r1, r2⟩ := hi.mdom o g l h
    refine ⟨c, Kput_old hi r1, r2.ext hext (setCells_other _ _ _ _ _ ?_)⟩
    rintro rfl
    obtain ⟨⟨d, t, fr, h4⟩, _⟩ := hi.alv o1 g1 y c hm hal hk
    exact r2.nocell _ _ _ h4
  · rw [hmm] at q1 q3
    have l1 := hi.mlt q1
    have l2 := hi.mlt q3
    rcases Kput_inv q2 with ⟨rfl, rfl, _⟩ | ⟨_, k1⟩
    · omega
    · rcases Kput_inv q4 with ⟨rfl, rfl, _⟩ | ⟨_, k2⟩
      · omega
      · exact hi.mdis _ _ _ _ _ _ _ q1 k1 q3 k2

end
end Go.Proofs.YtcpgkdaicglogaaGreatDoorPv
