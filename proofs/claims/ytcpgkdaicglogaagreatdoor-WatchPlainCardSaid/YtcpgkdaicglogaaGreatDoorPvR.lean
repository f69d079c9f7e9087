/-
Every operation that is taken does what the evaluator tells.
-/
import Derived.Test.YtcpgkdaicglogaaGreatDoorPvMi
namespace Go.Proofs.YtcpgkdaicglogaaGreatDoorPv
open Go Go.RowKit

section
variable {km : Km} {P : Program} {A : Ann} {cx : Cx km} {K : Nat → Nat → Option Nat} {σ σ' : St} {w : World} {E : Ev} {s : Nat} {fr : Fr} {a : Act} {o : Oper} {po : PO} {r : PV}

theorem OpDone.wp {next : Act → World → Prop} {Q : Exit → Act → World → Prop} (h : OpDone km P cx K σ w o a r σ')
    (hn : ∀ v w' K', RepS km cx K' σ' w' v r → Inv km cx K' σ' w' → Ext cx K σ w K' σ' w' → next (a.put o.dst v) w') : o.wp P a w next Q := by
  obtain ⟨res, v, w', K', h1, h2, h3, h4, h5⟩ := h
  have := hn v w' K' h3 h4 h5
  unfold Oper.wp
  rw [h1]
  cases res <;> simp only [nextVal] at h2
  · simp only [Option.some.injEq] at h2; subst h2; exact this
  · simp only [Option.some.injEq] at h2; subst h2; exact this
  all_goals cases h2

theorem op_step (hs : Plain s) (hE : SoundE km P E) (hA : LinkOk km A) {next : Act → World → Prop} {Q : Exit → Act → World → Prop} (hf : FrR km cx K σ w a.tmps fr) (hi : Inv km cx K σ w) (hc : compO P A o = some po) (he : evO E s fr σ po = some (r, σ'))
    (hn : ∀ v w' K', RepS km cx K' σ' w' v r → Inv km cx K' σ' w' → Ext cx K σ w K' σ' w' → next (a.put o.dst v) w') : o.wp P a w next Q := by
  cases ho : o.op
  case move x => exact (d_mv hA hf hi (.inl ho) hc he).wp hn
  case assign x => exact (d_mv hA hf hi (.inr ho) hc he).wp hn
  case pick c x y => exact (d_pick hA hf hi ho hc he).wp hn
  case alloc t => exact (d_alloc hs hA hi ho hc he).wp hn
  case box t x => exact (d_box hs hA hf hi ho hc he).wp hn
  case build t ps => exact (d_build hA hf hi ho hc he).wp hn
  case buildSlice t n ps => exact (d_bsl hs hA hf hi ho hc he).wp hn
  case load t x => exact (d_ld hA hf hi ho hc he).wp hn
  case store t x y => exact (d_st hA hf hi ho hc he).wp hn
  case nilCheck x => exact (d_nck hA hf hi ho hc he).wp hn
  case binOp op t x y t' => exact (d_bin hA hf hi ho hc he).wp hn
  case unOp op t x => exact (d_un hA hf hi ho hc he).wp hn
  case convert src dst x => exact (d_cv hA hf hi ho hc he).wp hn
  case makeFunc f fst cap =>
    cases f with
    | func f => exact (d_mkf hA hf hi ho hc he).wp hn
    | _ => simp [compO, ho] at hc
  case slice t x lo hi' mx =>
    cases mx with
    | none =>
      by_cases hp : ∃ n e, P.underlying t = some (.array n e)
      · obtain ⟨n, e, hu⟩ := hp
        exact (d_slcA hA hf hi ho hu hc he).wp hn
      · exact (d_slc hA hf hi ho (fun n e h => hp ⟨n, e, h⟩) hc he).wp hn
    | some m => simp [compO, ho] at hc
  case fieldAddr t x i => exact (d_fa hA hf hi ho hc he).wp hn
  case field t x i => exact (d_fld hA hf hi ho hc he).wp hn
  case indexAddr t x y => exact (d_ia hA hf hi ho hc he).wp hn
  case index t x y => exact (d_ix hA hf hi ho hc he).wp hn
  case extract x i => exact (d_ext hA hf hi ho hc he).wp hn
  case makeInterface t x => exact (d_mki hA hf hi ho hc he).wp hn
  case typeAssert x t0 t ok => exact (d_tas hA hf hi ho hc he).wp hn
  case makeMap t rs => exact (d_mkm hs hi ho hc he).wp hn
  case mapUpdate t x y z => exact (d_mput hA hf hi (.inl ho) hc he).wp hn
  case insert t x y z => exact (d_mput hA hf hi (.inr ho) hc he).wp hn
  case lookup t x y ok => exact (d_mget hA hf hi ho hc he).wp hn
  case makeSlice t x y => exact (d_msl hs hA hf hi ho hc he).wp hn
  case call c =>
    cases hcl : c.callee with
    | value x =>
      cases x with
      | func f =>
        simp only [compO, ho, compCall, hcl] at hc
        obtain ⟨k, hk, hc⟩ := Option.bind_eq_some_iff.1 hc
        obtain ⟨as, has, rfl⟩ := Option.map_eq_some_iff.1 hc
        obtain ⟨l1, l2⟩ := opnds_rep hA hf has
        split at he
        · simp only [evO] at he
          have := icallE_sound hE hs hi l1 l2 he
          refine upon_call (first := []) (captured := []) (f := k) ho ⟨_, hcl, by rw [hA.fn f k hk]; rfl⟩ (by simpa using this) hn
        · simp only [evO] at he
          have := callE_sound hE hi l1 l2 he
          refine upon_call (first := []) (captured := []) (f := k) ho ⟨_, hcl, by rw [hA.fn f k hk]; rfl⟩ (by simpa using this) hn
      | tmp t =>
        simp only [compO, ho, compCall, hcl] at hc
        obtain ⟨as, has, rfl⟩ := Option.map_eq_some_iff.1 hc
        obtain ⟨l1, l2⟩ := opnds_rep hA hf has
        simp only [evO, pa] at he
        split at he
        · rename_i k fa fb hk
          have rt := hf t
          rw [hk] at rt
          generalize hvt : a.tmps.getD t undef = vt at rt
          cases rt with
          | fn _ vf vc _ _ h1 h2 h3 h4 =>
            have := callE_sound (vs := vf ++ c.args.toList.map a.eval ++ vc) hE hi (by simp [h1, h2] at l1 ⊢; omega) (fun i v p hv hp => by
              have hl : (vf ++ c.args.toList.map a.eval).length = (fa ++ as.map (pa fr)).length := by simp [h1] at l1 ⊢; omega
              by_cases hlt : i < (vf ++ c.args.toList.map a.eval).length
              · rw [List.getElem?_append_left hlt] at hv
                rw [List.getElem?_append_left (by omega)] at hp
                by_cases hlt2 : i < vf.length
                · rw [List.getElem?_append_left hlt2] at hv
                  rw [List.getElem?_append_left (by omega)] at hp
                  exact h3 i v p hv hp
                · rw [List.getElem?_append_right (by omega)] at hv
                  rw [List.getElem?_append_right (by omega)] at hp
                  rw [h1] at hv
                  exact l2 _ v p hv hp
              · rw [List.getElem?_append_right (by omega)] at hv
                rw [List.getElem?_append_right (by omega)] at hp
                rw [hl] at hv
                exact h4 _ v p hv hp) he
            exact upon_call (first := vf) (captured := vc) (f := k) ho ⟨_, hcl, hvt⟩ this hn
        · cases he
      | const v => simp [compO, ho, compCall, hcl] at hc
      | global g => simp [compO, ho, compCall, hcl] at hc
    | invoke x m =>
      simp only [compO, ho, compCall, hcl] at hc
      obtain ⟨x', hx, hc⟩ := Option.bind_eq_some_iff.1 hc
      obtain ⟨as, has, rfl⟩ := Option.map_eq_some_iff.1 hc
      obtain ⟨l1, l2⟩ := opnds_rep hA hf has
      have r1 := opnd_rep hA hf hx
      simp only [evO] at he
      split at he
      · rename_i t p hp
        rw [hp] at r1
        split at he
        · rename_i k hk
          generalize hev : a.eval x = v at r1
          cases r1 with
          | ifc _ v _ hr =>
            obtain ⟨f, hmf, hkf⟩ := tblB_mem hk
            have := callE_sound (vs := v :: c.args.toList.map a.eval) hE hi (by simp at l1 ⊢; omega) (fun i u q hu hq => by
              cases i with
              | zero => simp at hu hq; subst hu; subst hq; exact hr
              | succ i => exact l2 i u q (by simpa using hu) (by simpa using hq)) he
            exact upon_inv ho hcl hev hmf (hA.fn f k hkf) this hn
        · cases he
      · cases he
    | builtin b =>
      cases b
      case len => exact (d_len hA hf hi ho hcl hc he).wp hn
      case min => exact (d_mnmx (mx := false) hA hf hi ho hcl hc he).wp hn
      case max => exact (d_mnmx (mx := true) hA hf hi ho hcl hc he).wp hn
      case append => exact (d_app hs hA hf hi ho hcl hc he).wp hn
      case delete => exact (d_mdel hA hf hi ho hcl hc he).wp hn
      case clear => exact (d_clr hA hf hi ho hcl hc he).wp hn
      all_goals simp [compO, ho, compCall, hcl] at hc
  all_goals simp [compO, ho] at hc

end
end Go.Proofs.YtcpgkdaicglogaaGreatDoorPv
