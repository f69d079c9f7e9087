/-
The statement RulesRead: proved for every input, with no condition.
-/
import Derived.Test.YtckcgppnppiccaaGreatDoorRows
import Derived.Test.YtckcgppnppiccaaGreatDoorCPvEa
import Derived.Test.YtckcgppnppiccaaGreatDoorCPvRa
import Derived.Test.YtckcgppnppiccaaGreatDoorCPvRb
import Derived.WalkKit
import Derived.ProofKit
import Derived.OpenShut
import Derived.ShutString
import Derived.ChangeOld
import Derived.Below
import Derived.SizedLaws
import Derived.LaidMore
import Derived.Stop.Joined
import Derived.Carry
import Derived.Lay
import Derived.KernelRfl
import Derived.LaidSub
import Derived.MakeChecks
import Derived.Lib.LaidTab
import Derived.Test.YtckcgppnppiccaaGreatDoorTie
import Derived.Test.YtckcgppnppiccaaGreatDoorCards
import Derived.SevenTiedAt
namespace Go.Proofs.YtckcgppnppiccaaGreatDoor.rulesRead
open Go.ChangeShapes Go.WideShapes Go.ChangeAt Go.RowKit
open Go.Proofs.YtckcgppnppiccaaGreatDoorPv
set_option linter.unusedVariables false
set_option linter.unusedSimpArgs false
theorem alive (mx : Int) : AV env 106 [] = some (.sc (.bool true)) := AV_run 60 (by kernel_rfl)
theorem lenR {r : Rule} (h : r.Held) : r.labels.length ≤ 9223372036854775807 := by have := h.l.1; unfold reachBytes at this; omega
theorem lenS {l : List ByteArray} (h : StrsHeld l) : l.length ≤ 9223372036854775807 := by have := h.1; unfold reachBytes at this; omega
theorem bits : Bits env := fun n hn => match n, hn with
  | 0, _ => ⟨0, AV_run 8 (by kernel_rfl)⟩
  | 1, _ => ⟨1, AV_run 8 (by kernel_rfl)⟩
  | 2, _ => ⟨2, AV_run 8 (by kernel_rfl)⟩
  | 3, _ => ⟨2, AV_run 8 (by kernel_rfl)⟩
  | 4, _ => ⟨3, AV_run 8 (by kernel_rfl)⟩
  | 5, _ => ⟨3, AV_run 8 (by kernel_rfl)⟩
  | 6, _ => ⟨3, AV_run 8 (by kernel_rfl)⟩
  | 7, _ => ⟨3, AV_run 8 (by kernel_rfl)⟩
  | 8, _ => ⟨4, AV_run 8 (by kernel_rfl)⟩
  | 9, _ => ⟨4, AV_run 8 (by kernel_rfl)⟩
  | 10, _ => ⟨4, AV_run 8 (by kernel_rfl)⟩
  | 11, _ => ⟨4, AV_run 8 (by kernel_rfl)⟩
  | 12, _ => ⟨4, AV_run 8 (by kernel_rfl)⟩
  | n + 13, h => absurd h (by omega)
theorem own : ownKnob Tryz.prog.godebug = none := by kernel_rfl
theorem laidOut : laidOutB Tryz.prog = true := by kernel_rfl
def laidL : List (String × DataW Unit) := [("math/bits.deBruijn32tab", Rows.laid_math_bits_deBruijn32tab), ("math/bits.deBruijn64tab", Rows.laid_math_bits_deBruijn64tab), ("internal/strconv.uint64pow10", Rows.laid_internal_strconv_uint64pow10), ("unicode/utf8.acceptRanges", Rows.laid_unicode_utf8_acceptRanges), ("unicode/utf8.first", Rows.laid_unicode_utf8_first)]
theorem door_met (os : Os) (args : Array Value) : laidMetH Tryz.prog laidL ((World.laidAll Tryz.prog os laidL).forCall (fun _ _ => 0) ⟨#[], args, []⟩).memory :=
  laidMetH_of_parts3 (fuel := 8) (by rw [show (laidL.filter fun x => x.2.handleName?.isNone) = laidL from by kernel_rfl]; exact laidMet_laidAll _ (by kernel_rfl) (by kernel_rfl)) (by kernel_rfl) (by kernel_rfl)
theorem table (W : World) (h : laidMetH Tryz.prog laidL W) : Lib.TabIs Tryz.prog W "internal/strconv.uint64pow10" .u64 Lib.pow10Tab := by
  have h1 := h.filter (fun x => x.1 == "internal/strconv.uint64pow10")
  rw [show laidL.filter (fun x => x.1 == "internal/strconv.uint64pow10") = [("internal/strconv.uint64pow10", Lib.tabData .u64 Lib.pow10Tab)] from by kernel_rfl] at h1
  rw [Go.MakeChecks.laidMetH_plain _ _ _ (by kernel_rfl)] at h1
  exact Lib.tabIs_of_head (g := 0) (t := 151) (e := 125) (n := 20) (by kernel_rfl) (by kernel_rfl) (by kernel_rfl) (by kernel_rfl) (by kernel_rfl) (by kernel_rfl) h1
set_option maxRecDepth 100000 in
theorem lifted (os : Os) (started : os.Started) (H : Type) (enc : TypeId × Value → H) :
    ReturnsInHanded {} Tryz.checked os 5 .any (fun w args => (Rows.rulesReadSpec.pre enc Tryz.prog Tryz.f5 [] false w args ∧ laidMetH Tryz.prog laidL w) ∧ sizedMet enc Tryz.prog Tryz.f5 (OpenSpec.ofChange Rows.rulesReadSpec) false w args)
      (Rows.rulesReadSpec.post enc Tryz.prog Tryz.f5 false true false false) := by
  refine returns_and_shapedZ (C := Tryz.checked) (Z := fun w _ => laidMetH Tryz.prog laidL w) (fun _ _ _ hh h => h.of_heap hh) own started (by kernel_rfl) Tryz.func5
    (ChangeSpec.witness_shaped (enc := enc) (C := Tryz.checked) (os := os) (X := fun w _ => laidMetH Tryz.prog laidL w) false (World.laidAll Tryz.prog os laidL) #[.agg #[.string ⟨#[]⟩, .string ⟨#[]⟩, .int .i64 0, .int .i64 0, .int .i64 0, .int .i64 0, .int .i64 0, .slice none 0 0], .slice none 0 0] 8 rfl (World.shaped_of_ZipB (by kernel_rfl) (by kernel_rfl)) (by kernel_rfl) (by kernel_rfl) (by kernel_rfl) (door_met os _)) ?_
  intro W base args ds gs before hval0 hW _ hsz0 hsh hL
  obtain ⟨mx, hmx⟩ := Tryz.laysM155.s1_3 W hsh
  have hsz : (DataW.weightsEach Tryz.prog (Tryz.f5.params.toList ++ Rows.rulesReadSpec.plain.varTypes Tryz.prog) (ds ++ gs)).all (· ≤ reachBytes) = true := hsz0
  have hval : ∀ (j : Nat) t v, Tryz.f5.params[j]? = some t → args[j]? = some v → Value.okWide Tryz.prog W .any base t v := hval0
  have hW' := hW
  obtain ⟨p, q, hA0, hV, rfl, hfz, hnd⟩ := hW
  have hA : DataW.TrodAll enc Tryz.prog W 0 (fun _ => true) true Tryz.f5.params.toList args.toList ds p := hA0
  rw [Tryz.params5] at hA hval hsz
  obtain ⟨v0, vs0, d0, ds0, p0, q0, hargs, rfl, rfl, h0, r0⟩ := trodAll_cons hA
  obtain ⟨v1, vs1, d1, ds1, p1, q1, rfl, rfl, rfl, h1, r1⟩ := trodAll_cons r0
  obtain ⟨rfl, rfl, rfl⟩ := trodAll_nil r1
  obtain rfl : args = #[v0, v1] := by cases args; simp_all
  obtain ⟨rfl, rfl⟩ := trodVars_none hV
  have wt0 : ∀ x ∈ d0.weights Tryz.prog 24, x ≤ reachBytes := fun x hx => by simpa using List.all_eq_true.1 hsz x (DataW.weights_mem_each (j := 0) rfl rfl x hx)
  have k0 := h0
  have lt0 : ∀ x ∈ p0, x.block < W.heap.size := by obtain ⟨m, hm⟩ := k0; exact DataW.trod_lt m _ _ _ hm
  obtain ⟨l0, is0, rp0⟩ := open_arg (n := 8) (km := (km mx)) (K := fun _ _ => none) (by kernel_rfl) (hval 0 24 v0 rfl rfl) h0 wt0
  obtain ⟨a0, ea0, ha0⟩ := rule_of is0 (by kernel_rfl)
  rw [ea0] at rp0
  have wt1 : ∀ x ∈ d1.weights Tryz.prog 40, x ≤ reachBytes := fun x hx => by simpa using List.all_eq_true.1 hsz x (DataW.weights_mem_each (j := 1) rfl rfl x hx)
  have k1 := h1
  have lt1 : ∀ x ∈ p1, x.block < W.heap.size := by obtain ⟨m, hm⟩ := k1; exact DataW.trod_lt m _ _ _ hm
  obtain ⟨l1, is1, rp1⟩ := open_arg (n := 8) (km := (km mx)) (K := fun _ _ => none) (by kernel_rfl) (hval 1 40 v1 rfl rfl) h1 wt1
  obtain ⟨a1, ea1, ha1⟩ := strs_of is1 (by kernel_rfl)
  subst ea1
  rw [show mkPV (Go.Proofs.YtckcgppnppiccaaGreatDoorPv.isAgg Tryz.prog 40) [PV.sl (strs a1)] = .sl (strs a1) by rw [show Go.Proofs.YtckcgppnppiccaaGreatDoorPv.isAgg Tryz.prog 40 = false from by kernel_rfl]; rfl] at rp1
  clear hA0 hval0 hsz0 hsz
  have ans : AV env 185 [rule a0, .sl (strs a1)] = some (.sc (.bool true)) := (a185 has_la has_lc has_lf has_lg has_li has_lp has_lu has_lha has_lhb has_lhc has_lhe has_lhd has_lhg has_ln0 has_ln has_ll0 has_ll has_lm0 has_lm has_lhi has_lhj (fun s hs => a204 has_la0 has_lc has_lp has_lu has_lca has_lcb has_lbb has_lbs has_lcc has_lcd hs) (fun s hs => a208 has_ll0 has_lm0 has_lu has_lce has_lcf hs) (alive mx) (by have := ha0.l.1; unfold reachBytes at this; omega) (lenS ha1))
  have run := law_calls Go.Proofs.YtckcgppnppiccaaGreatDoorPv.mixed (Go.Proofs.YtckcgppnppiccaaGreatDoorPv.linked mx) (gl := ⟨fun a v h => by obtain ⟨rfl, rfl⟩ := h; exact hmx, table W hL⟩) (vs := [v0, v1]) (w := W) (h := ans) (hl := rfl) (hr := fun i v p hv hp => by
    match i with
    | 0 => simp only [List.getElem?_cons_zero, List.getElem?_cons_succ, Option.some.injEq] at hv hp; subst hv; subst hp; exact rp0
    | 1 => simp only [List.getElem?_cons_zero, List.getElem?_cons_succ, Option.some.injEq] at hv hp; subst hv; subst hp; exact rp1
    | i + 2 => simp at hv)
  rw [show (km mx) 185 = 5 from by kernel_rfl] at run
  refine run.mono fun e W' ⟨he, bel⟩ => ?_
  subst he
  exact ⟨_, rfl, _, _, _, [], _, [], hW', trodAll_mk1 (shut_bool Tryz.underlying4 _), (trodAll_cons_mk (Below.trod laidOut (by kernel_rfl) (of_decide_eq_true (by kernel_rfl)) k0 bel lt0) (trodAll_cons_mk (Below.trod laidOut (by kernel_rfl) (of_decide_eq_true (by kernel_rfl)) k1 bel lt1) trodAll_mk0)), rfl, bel.frame _, fun h => by cases h⟩
theorem over : Rows.rulesReadRow.holds Tryz.pinned (OpenSpec.ofChange Rows.rulesReadSpec) :=
  OpenClaim.holds_of_wide 5 Tryz.f5 rfl rfl rfl rfl rfl rfl rfl ⟨rfl, rfl, rfl, rfl, rfl⟩ rfl rfl rfl rfl rfl (by kernel_rfl) Tryz.func5 (by kernel_rfl)
    (of_decide_eq_true (by kernel_rfl)) (by unfold Func.isWrapper; first | (rw [if_pos (by decide +kernel)]; kernel_rfl) | (rw [if_neg (by decide +kernel)]; exact ⟨rfl, rfl⟩))
    (fun os started H enc _ => lifted os started H enc)
theorem card_holds : Rows.RulesReadCardSaid :=
  Claim7.holds_tied_plain_at .later [] [.data, .data, .data, .data, .pinned] true (true, "2142f04bfdb8459c714ec8aa3e77f217c0308c6c9a02c491a7a2fc860bdecd8b") false
    over (fun _ h => by cases h) (by kernel_rfl) (fun _ h => by cases h) rulesRead_row_tie rfl ⟨rfl, rfl⟩ (by kernel_rfl) rfl
    (fun f fn hf hfn => by
      obtain rfl : f = 5 := Option.some.inj ((show Tryz.prog.funcNamed "transhipment/transhipmentlaw08.RulesRead" = some 5 by kernel_rfl).symm.trans hf) |>.symm
      obtain rfl : fn = Tryz.f5 := (Option.some.inj (Tryz.func5.symm.trans hfn)).symm
      exact ⟨by kernel_rfl, fun j t ht => by
        rw [Tryz.params5] at ht
        have h3 : t = 24 ∨ t = 40 := by
          match j with
          | 0 => have := ht.symm; simp only [List.getElem?_toArray, List.getElem?_cons_zero, List.getElem?_cons_succ, Option.some.injEq] at this; simp [this]
          | 1 => have := ht.symm; simp only [List.getElem?_toArray, List.getElem?_cons_zero, List.getElem?_cons_succ, Option.some.injEq] at this; simp [this]
          | j + 2 => simp at ht
        rcases h3 with rfl | rfl
        · exact (show Tryz.prog.wantsStandIn 24 = false by kernel_rfl)
        · exact (show Tryz.prog.wantsStandIn 40 = false by kernel_rfl)
      ⟩)
    (by kernel_rfl)
#print axioms card_holds
end Go.Proofs.YtckcgppnppiccaaGreatDoor.rulesRead
namespace Go.Proofs.YtckcgppnppiccaaGreatDoor
theorem rulesRead_holds : Rows.RulesReadCardSaid := rulesRead.card_holds
end Go.Proofs.YtckcgppnppiccaaGreatDoor

