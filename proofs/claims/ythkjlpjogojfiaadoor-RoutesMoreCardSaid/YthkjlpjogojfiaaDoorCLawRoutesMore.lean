/-
The statement RoutesMore: proved for every input, with no condition.
-/
import Derived.Test.YthkjlpjogojfiaaDoorRows
import Derived.Test.YthkjlpjogojfiaaDoorCPvEa
import Derived.Test.YthkjlpjogojfiaaDoorCPvRf
import Derived.WalkKit
import Derived.ProofKit
import Derived.OpenShut
import Derived.ShutString
import Derived.ChangeOld
import Derived.Below
import Derived.SizedLaws
import Derived.LaidMore
import Derived.Stop.Joined
import Derived.Carry
import Derived.Lay
import Derived.KernelRfl
import Derived.LaidSub
import Derived.MakeChecks
import Derived.Lib.LaidTab
import Derived.Test.YthkjlpjogojfiaaDoorTie
import Derived.Test.YthkjlpjogojfiaaDoorCards
import Derived.SevenTiedAt
namespace Go.Proofs.YthkjlpjogojfiaaDoor.routesMore
open Go.ChangeShapes Go.WideShapes Go.ChangeAt Go.RowKit
open Go.Proofs.YthkjlpjogojfiaaDoorPv
set_option linter.unusedVariables false
set_option linter.unusedSimpArgs false
theorem alive : AV env 295 [] = some (.sc (.bool true)) := AV_run 60 (by kernel_rfl)
theorem rr9 : Rr9 env := ⟨⟨has_law, has_lf0, has_la0, has_lc, has_lx0, has_lka⟩, has_lkb, has_lha, has_lkc, has_lkd, has_lke, has_lhd, has_lkf, alive⟩
theorem lenL {l : List Lab} (h : LabsHeld l) : l.length ≤ 9223372036854775807 := rb_len h.1
theorem own : ownKnob Tryd.prog.godebug = none := by kernel_rfl
theorem laidOut : laidOutB Tryd.prog = true := by kernel_rfl
def laidL : List (String × DataW Unit) := [("math/bits.deBruijn32tab", Rows.laid_math_bits_deBruijn32tab), ("math/bits.deBruijn64tab", Rows.laid_math_bits_deBruijn64tab), ("internal/strconv.uint64pow10", Rows.laid_internal_strconv_uint64pow10), ("unicode/utf8.acceptRanges", Rows.laid_unicode_utf8_acceptRanges), ("unicode/utf8.first", Rows.laid_unicode_utf8_first)]
theorem door_met (os : Os) (args : Array Value) : laidMetH Tryd.prog laidL ((World.laidAll Tryd.prog os laidL).forCall (fun _ _ => 0) ⟨#[], args, []⟩).memory :=
  laidMetH_of_parts3 (fuel := 8) (by rw [show (laidL.filter fun x => x.2.handleName?.isNone) = laidL from by kernel_rfl]; exact laidMet_laidAll _ (by kernel_rfl) (by kernel_rfl)) (by kernel_rfl) (by kernel_rfl)
theorem table (W : World) (h : laidMetH Tryd.prog laidL W) : Lib.TabIs Tryd.prog W "internal/strconv.uint64pow10" .u64 Lib.pow10Tab := by
  have h1 := h.filter (fun x => x.1 == "internal/strconv.uint64pow10")
  rw [show laidL.filter (fun x => x.1 == "internal/strconv.uint64pow10") = [("internal/strconv.uint64pow10", Lib.tabData .u64 Lib.pow10Tab)] from by kernel_rfl] at h1
  rw [Go.MakeChecks.laidMetH_plain _ _ _ (by kernel_rfl)] at h1
  exact Lib.tabIs_of_head (g := 0) (t := 100) (e := 88) (n := 20) (by kernel_rfl) (by kernel_rfl) (by kernel_rfl) (by kernel_rfl) (by kernel_rfl) (by kernel_rfl) h1
set_option maxRecDepth 100000 in
theorem lifted (os : Os) (started : os.Started) (H : Type) (enc : TypeId × Value → H) :
    ReturnsInHanded {} Tryd.checked os 4 .any (fun w args => (Rows.routesMoreSpec.pre enc Tryd.prog Tryd.f4 [] false w args ∧ laidMetH Tryd.prog laidL w) ∧ sizedMet enc Tryd.prog Tryd.f4 (OpenSpec.ofChange Rows.routesMoreSpec) false w args)
      (Rows.routesMoreSpec.post enc Tryd.prog Tryd.f4 false true false false) := by
  refine returnsInHanded_of_change_and (C := Tryd.checked) (X := fun w _ => laidMetH Tryd.prog laidL w) (fun _ _ _ hh h => h.of_heap hh) own started (by kernel_rfl) Tryd.func4
    (ChangeSpec.witness_shaped (enc := enc) (C := Tryd.checked) (os := os) (X := fun w _ => laidMetH Tryd.prog laidL w) false (World.laidAll Tryd.prog os laidL) #[.agg #[.string ⟨#[]⟩, .slice none 0 0, .slice none 0 0, .int .i64 0, .int .i64 0, .int .i64 0, .slice none 0 0, .bool false, .slice none 0 0], .slice none 0 0] 8 rfl (World.shaped_of_ZipB (by kernel_rfl) (by kernel_rfl)) (by kernel_rfl) (by kernel_rfl) (by kernel_rfl) (door_met os _)) ?_
  intro W base args ds gs before hval0 hW _ hsz0 hL _
  have hsz : (DataW.weightsEach Tryd.prog (Tryd.f4.params.toList ++ Rows.routesMoreSpec.plain.varTypes Tryd.prog) (ds ++ gs)).all (· ≤ reachBytes) = true := hsz0
  have hval : ∀ (j : Nat) t v, Tryd.f4.params[j]? = some t → args[j]? = some v → Value.okWide Tryd.prog W .any base t v := hval0
  have hW' := hW
  obtain ⟨p, q, hA0, hV, rfl, hfz, hnd⟩ := hW
  have hA : DataW.TrodAll enc Tryd.prog W 0 (fun _ => true) true Tryd.f4.params.toList args.toList ds p := hA0
  rw [Tryd.params4] at hA hval hsz
  obtain ⟨v0, vs0, d0, ds0, p0, q0, hargs, rfl, rfl, h0, r0⟩ := trodAll_cons hA
  obtain ⟨v1, vs1, d1, ds1, p1, q1, rfl, rfl, rfl, h1, r1⟩ := trodAll_cons r0
  obtain ⟨rfl, rfl, rfl⟩ := trodAll_nil r1
  obtain rfl : args = #[v0, v1] := by cases args; simp_all
  obtain ⟨rfl, rfl⟩ := trodVars_none hV
  have wt0 : ∀ x ∈ d0.weights Tryd.prog 26, x ≤ reachBytes := fun x hx => by simpa using List.all_eq_true.1 hsz x (DataW.weights_mem_each (j := 0) rfl rfl x hx)
  have k0 := h0
  have lt0 : ∀ x ∈ p0, x.block < W.heap.size := by obtain ⟨m, hm⟩ := k0; exact DataW.trod_lt m _ _ _ hm
  obtain ⟨l0, is0, rp0⟩ := open_argG (g := fun t => [26, 9, 3, 4, 22, 44, 23, 24].contains t) (okTs_all (P := Tryd.prog) (by kernel_rfl)) (km := km) (K := fun _ _ => none) (by kernel_rfl) (hval 0 26 v0 rfl rfl) h0 wt0
  obtain ⟨a0, ea0, ha0⟩ := rt_of is0 (by kernel_rfl)
  rw [ea0] at rp0
  have wt1 : ∀ x ∈ d1.weights Tryd.prog 27, x ≤ reachBytes := fun x hx => by simpa using List.all_eq_true.1 hsz x (DataW.weights_mem_each (j := 1) rfl rfl x hx)
  have k1 := h1
  have lt1 : ∀ x ∈ p1, x.block < W.heap.size := by obtain ⟨m, hm⟩ := k1; exact DataW.trod_lt m _ _ _ hm
  obtain ⟨l1, is1, rp1⟩ := open_arg (n := 8) (km := km) (K := fun _ _ => none) (by kernel_rfl) (hval 1 27 v1 rfl rfl) h1 wt1
  obtain ⟨a1, ea1, ha1⟩ := labs_of is1 (by kernel_rfl)
  subst ea1
  rw [show mkPV (Go.Proofs.YthkjlpjogojfiaaDoorPv.isAgg Tryd.prog 27) [PV.sl (labs a1)] = .sl (labs a1) by rw [show Go.Proofs.YthkjlpjogojfiaaDoorPv.isAgg Tryd.prog 27 = false from by kernel_rfl]; rfl] at rp1
  clear hA0 hval0 hsz0 hsz
  have ans : AV env 289 [rt a0, .sl (labs a1)] = some (.sc (.bool true)) := (Go.Proofs.YthkjlpjogojfiaaDoorPv.a289 rr9 has_lkp ha0 (lenL ha1))
  have run := law_calls Go.Proofs.YthkjlpjogojfiaaDoorPv.mixed Go.Proofs.YthkjlpjogojfiaaDoorPv.linked (gl := ⟨fun _ _ h => h.elim, table W hL⟩) (vs := [v0, v1]) (w := W) (h := ans) (hl := rfl) (hr := fun i v p hv hp => by
    match i with
    | 0 => simp only [List.getElem?_cons_zero, List.getElem?_cons_succ, Option.some.injEq] at hv hp; subst hv; subst hp; exact rp0
    | 1 => simp only [List.getElem?_cons_zero, List.getElem?_cons_succ, Option.some.injEq] at hv hp; subst hv; subst hp; exact rp1
    | i + 2 => simp at hv)
  rw [show km 289 = 4 from by kernel_rfl] at run
  refine run.mono fun e W' ⟨he, bel⟩ => ?_
  subst he
  exact ⟨_, rfl, _, _, _, [], _, [], hW', trodAll_mk1 (shut_bool Tryd.underlying4 _), (trodAll_cons_mk (Below.trod laidOut (by kernel_rfl) (of_decide_eq_true (by kernel_rfl)) k0 bel lt0) (trodAll_cons_mk (Below.trod laidOut (by kernel_rfl) (of_decide_eq_true (by kernel_rfl)) k1 bel lt1) trodAll_mk0)), rfl, bel.frame _, fun h => by cases h⟩
theorem over : Rows.routesMoreRow.holds Tryd.pinned (OpenSpec.ofChange Rows.routesMoreSpec) :=
  OpenClaim.holds_of_wide 4 Tryd.f4 rfl rfl rfl rfl rfl rfl rfl ⟨rfl, rfl, rfl, rfl, rfl⟩ rfl rfl rfl rfl rfl (by kernel_rfl) Tryd.func4 (by kernel_rfl)
    (of_decide_eq_true (by kernel_rfl)) (by unfold Func.isWrapper; first | (rw [if_pos (by decide +kernel)]; kernel_rfl) | (rw [if_neg (by decide +kernel)]; exact ⟨rfl, rfl⟩))
    (fun os started H enc _ => lifted os started H enc)
theorem card_holds : Rows.RoutesMoreCardSaid :=
  Claim7.holds_tied_plain_at .later [] [.data, .data, .data, .data, .pinned] true (true, "f605a40f3eb7345c89d25794d9365e24a6e7afc7589f606afff938b729aa129a") false
    over (fun _ h => by cases h) (by kernel_rfl) (fun _ h => by cases h) routesMore_row_tie rfl ⟨rfl, rfl⟩ (by kernel_rfl) rfl
    (fun f fn hf hfn => by
      obtain rfl : f = 4 := Option.some.inj ((show Tryd.prog.funcNamed "transhipment/transhipmentlaw09.RoutesMore" = some 4 by kernel_rfl).symm.trans hf) |>.symm
      obtain rfl : fn = Tryd.f4 := (Option.some.inj (Tryd.func4.symm.trans hfn)).symm
      exact ⟨by kernel_rfl, fun j t ht => by
        rw [Tryd.params4] at ht
        have h3 : t = 26 ∨ t = 27 := by
          match j with
          | 0 => have := ht.symm; simp only [List.getElem?_toArray, List.getElem?_cons_zero, List.getElem?_cons_succ, Option.some.injEq] at this; simp [this]
          | 1 => have := ht.symm; simp only [List.getElem?_toArray, List.getElem?_cons_zero, List.getElem?_cons_succ, Option.some.injEq] at this; simp [this]
          | j + 2 => simp at ht
        rcases h3 with rfl | rfl
        · exact (show Tryd.prog.wantsStandIn 26 = false by kernel_rfl)
        · exact (show Tryd.prog.wantsStandIn 27 = false by kernel_rfl)
      ⟩)
    (by kernel_rfl)
#print axioms card_holds
end Go.Proofs.YthkjlpjogojfiaaDoor.routesMore
namespace Go.Proofs.YthkjlpjogojfiaaDoor
theorem routesMore_holds : Rows.RoutesMoreCardSaid := routesMore.card_holds
end Go.Proofs.YthkjlpjogojfiaaDoor

