/-
The statement WatchPlain: proved for every input, with no condition.
-/
import Derived.Test.YtcpgkdaicglogaaGreatDoorRows
import Derived.Test.YtcpgkdaicglogaaGreatDoorCPvEa
import Derived.Test.YtcpgkdaicglogaaGreatDoorCPvRa
import Derived.Test.YtcpgkdaicglogaaGreatDoorPkWatchPlainD
import Derived.WalkKit
import Derived.ProofKit
import Derived.OpenShut
import Derived.ShutString
import Derived.ChangeOld
import Derived.Below
import Derived.SizedLaws
import Derived.LaidMore
import Derived.Stop.Joined
import Derived.Carry
import Derived.Lay
import Derived.KernelRfl
import Derived.Test.YtcpgkdaicglogaaGreatDoorTie
import Derived.Test.YtcpgkdaicglogaaGreatDoorCards
import Derived.SevenTiedAt
namespace Go.Proofs.YtcpgkdaicglogaaGreatDoor.watchPlain
open Go.ChangeShapes Go.WideShapes Go.ChangeAt Go.RowKit
open Go.Proofs.YtcpgkdaicglogaaGreatDoorPv
set_option linter.unusedVariables false
set_option linter.unusedSimpArgs false
theorem alive (mx : Int) : AV env 354 [] = some (.sc (.bool true)) := AV_run 60 (by kernel_rfl)
theorem bits : Bits env := fun n hn => match n, hn with
  | 0, _ => ⟨0, AV_run 8 (by kernel_rfl)⟩
  | 1, _ => ⟨1, AV_run 8 (by kernel_rfl)⟩
  | 2, _ => ⟨2, AV_run 8 (by kernel_rfl)⟩
  | 3, _ => ⟨2, AV_run 8 (by kernel_rfl)⟩
  | 4, _ => ⟨3, AV_run 8 (by kernel_rfl)⟩
  | 5, _ => ⟨3, AV_run 8 (by kernel_rfl)⟩
  | 6, _ => ⟨3, AV_run 8 (by kernel_rfl)⟩
  | 7, _ => ⟨3, AV_run 8 (by kernel_rfl)⟩
  | 8, _ => ⟨4, AV_run 8 (by kernel_rfl)⟩
  | 9, _ => ⟨4, AV_run 8 (by kernel_rfl)⟩
  | 10, _ => ⟨4, AV_run 8 (by kernel_rfl)⟩
  | 11, _ => ⟨4, AV_run 8 (by kernel_rfl)⟩
  | 12, _ => ⟨4, AV_run 8 (by kernel_rfl)⟩
  | n + 13, h => absurd h (by omega)
theorem ww (mx : Int) : Ww env := ⟨⟨has_la, has_lc, has_lf, has_lg, has_lo, has_lp, has_lq, has_lu, bits⟩, has_lwa, has_lwb, has_lwc, has_lwd, has_lwe, has_lwg, has_lwh, alive mx⟩
theorem small_ {s : ByteArray} (h : s.size ≤ reachBytes) : Small s := by unfold reachBytes at h; unfold Small; omega
theorem lenR {r : Rule} (h : r.Held) : r.Fits := ⟨small_ h.n, small_ h.m, by have := h.l.1; unfold reachBytes at this; omega, fun m hm => ⟨small_ (h.l.2 m hm).1, small_ (h.l.2 m hm).2⟩⟩
theorem lenI {l : List Int} (h : l.length ≤ reachBytes) : l.length ≤ 9223372036854775807 := by unfold reachBytes at h; omega
theorem own : ownKnob Tryz.prog.godebug = none := by kernel_rfl
theorem laidOut : laidOutB Tryz.prog = true := by kernel_rfl
def laidL : List (String × DataW Unit) := [("unicode/utf8.acceptRanges", Rows.laid_unicode_utf8_acceptRanges), ("unicode/utf8.first", Rows.laid_unicode_utf8_first)]
theorem door_met (os : Os) (args : Array Value) : laidMetH Tryz.prog laidL ((World.laidAll Tryz.prog os laidL).forCall (fun _ _ => 0) ⟨#[], args, []⟩).memory :=
  laidMetH_of_parts3 (fuel := 8) (by rw [show (laidL.filter fun x => x.2.handleName?.isNone) = laidL from by kernel_rfl]; exact laidMet_laidAll _ (by kernel_rfl) (by kernel_rfl)) (by kernel_rfl) (by kernel_rfl)
set_option maxRecDepth 100000 in
theorem lifted (os : Os) (started : os.Started) (H : Type) (enc : TypeId × Value → H) :
    ReturnsInHanded {} Tryz.checked os 3 .any (fun w args => (Rows.watchPlainSpec.pre enc Tryz.prog Tryz.f3 [] false w args ∧ laidMetH Tryz.prog laidL w) ∧ sizedMet enc Tryz.prog Tryz.f3 (OpenSpec.ofChange Rows.watchPlainSpec) false w args)
      (Rows.watchPlainSpec.post enc Tryz.prog Tryz.f3 false true false false) := by
  refine returns_and_shapedZ (C := Tryz.checked) (Z := fun w _ => laidMetH Tryz.prog laidL w) (fun _ _ _ hh h => h.of_heap hh) own started (by kernel_rfl) Tryz.func3
    (ChangeSpec.witness_shaped (enc := enc) (C := Tryz.checked) (os := os) (X := fun w _ => laidMetH Tryz.prog laidL w) false (World.laidAll Tryz.prog os laidL) #[.agg #[.string ⟨#[]⟩, .string ⟨#[]⟩, .int .i64 0, .int .i64 0, .int .i64 0, .int .i64 0, .int .i64 0, .slice none 0 0], .slice none 0 0, .slice none 0 0] 8 rfl (World.shaped_of_ZipB (by kernel_rfl) (by kernel_rfl)) (by kernel_rfl) (by kernel_rfl) (by kernel_rfl) (door_met os _)) ?_
  intro W base args ds gs before hval0 hW _ hsz0 hsh hL
  obtain ⟨mx, hmx⟩ := Tryz.laysM155.s1_3 W hsh
  have hsz : (DataW.weightsEach Tryz.prog (Tryz.f3.params.toList ++ Rows.watchPlainSpec.plain.varTypes Tryz.prog) (ds ++ gs)).all (· ≤ reachBytes) = true := hsz0
  have hval : ∀ (j : Nat) t v, Tryz.f3.params[j]? = some t → args[j]? = some v → Value.okWide Tryz.prog W .any base t v := hval0
  have hW' := hW
  obtain ⟨p, q, hA0, hV, rfl, hfz, hnd⟩ := hW
  have hA : DataW.TrodAll enc Tryz.prog W 0 (fun _ => true) true Tryz.f3.params.toList args.toList ds p := hA0
  rw [Tryz.params3] at hA hval hsz
  obtain ⟨v0, vs0, d0, ds0, p0, q0, hargs, rfl, rfl, h0, r0⟩ := trodAll_cons hA
  obtain ⟨v1, vs1, d1, ds1, p1, q1, rfl, rfl, rfl, h1, r1⟩ := trodAll_cons r0
  obtain ⟨v2, vs2, d2, ds2, p2, q2, rfl, rfl, rfl, h2, r2⟩ := trodAll_cons r1
  obtain ⟨rfl, rfl, rfl⟩ := trodAll_nil r2
  obtain rfl : args = #[v0, v1, v2] := by cases args; simp_all
  obtain ⟨rfl, rfl⟩ := trodVars_none hV
  have wt0 : ∀ x ∈ d0.weights Tryz.prog 24, x ≤ reachBytes := fun x hx => by simpa using List.all_eq_true.1 hsz x (DataW.weights_mem_each (j := 0) rfl rfl x hx)
  have k0 := h0
  have lt0 : ∀ x ∈ p0, x.block < W.heap.size := by obtain ⟨m, hm⟩ := k0; exact DataW.trod_lt m _ _ _ hm
  obtain ⟨l0, is0, rp0⟩ := open_arg (n := 8) (km := (km mx)) (K := fun _ _ => none) (by kernel_rfl) (hval 0 24 v0 rfl rfl) h0 wt0
  obtain ⟨a0, ea0, ha0⟩ := rule_of is0 (by kernel_rfl)
  rw [ea0] at rp0
  have wt1 : ∀ x ∈ d1.weights Tryz.prog 25, x ≤ reachBytes := fun x hx => by simpa using List.all_eq_true.1 hsz x (DataW.weights_mem_each (j := 1) rfl rfl x hx)
  have k1 := h1
  have lt1 : ∀ x ∈ p1, x.block < W.heap.size := by obtain ⟨m, hm⟩ := k1; exact DataW.trod_lt m _ _ _ hm
  obtain ⟨l1, is1, rp1⟩ := open_arg (n := 8) (km := (km mx)) (K := fun _ _ => none) (by kernel_rfl) (hval 1 25 v1 rfl rfl) h1 wt1
  obtain ⟨a1, ea1, ha1⟩ := nums_of is1 (by kernel_rfl)
  subst ea1
  rw [show mkPV (Go.Proofs.YtcpgkdaicglogaaGreatDoorPv.isAgg Tryz.prog 25) [PV.sl (numsW a1)] = .sl (numsW a1) by rw [show Go.Proofs.YtcpgkdaicglogaaGreatDoorPv.isAgg Tryz.prog 25 = false from by kernel_rfl]; rfl] at rp1
  have wt2 : ∀ x ∈ d2.weights Tryz.prog 25, x ≤ reachBytes := fun x hx => by simpa using List.all_eq_true.1 hsz x (DataW.weights_mem_each (j := 2) rfl rfl x hx)
  have k2 := h2
  have lt2 : ∀ x ∈ p2, x.block < W.heap.size := by obtain ⟨m, hm⟩ := k2; exact DataW.trod_lt m _ _ _ hm
  obtain ⟨l2, is2, rp2⟩ := open_arg (n := 8) (km := (km mx)) (K := fun _ _ => none) (by kernel_rfl) (hval 2 25 v2 rfl rfl) h2 wt2
  obtain ⟨a2, ea2, ha2⟩ := nums_of is2 (by kernel_rfl)
  subst ea2
  rw [show mkPV (Go.Proofs.YtcpgkdaicglogaaGreatDoorPv.isAgg Tryz.prog 25) [PV.sl (numsW a2)] = .sl (numsW a2) by rw [show Go.Proofs.YtcpgkdaicglogaaGreatDoorPv.isAgg Tryz.prog 25 = false from by kernel_rfl]; rfl] at rp2
  clear hA0 hval0 hsz0 hsz
  have ans : AV env 346 [rule a0, .sl (numsW a1), .sl (numsW a2)] = some (.sc (.bool true)) := (Go.Proofs.YtcpgkdaicglogaaGreatDoorPv.a346 (ww mx) has_lwi (lenR ha0) (lenI ha1) (lenI ha2))
  have run := law_calls Go.Proofs.YtcpgkdaicglogaaGreatDoorPv.mixed (Go.Proofs.YtcpgkdaicglogaaGreatDoorPv.linked mx) (gl := ⟨fun a v h => by obtain ⟨rfl, rfl⟩ := h; exact hmx, trivial⟩) (vs := [v0, v1, v2]) (w := W) (h := ans) (hl := rfl) (hr := fun i v p hv hp => by
    match i with
    | 0 => simp only [List.getElem?_cons_zero, List.getElem?_cons_succ, Option.some.injEq] at hv hp; subst hv; subst hp; exact rp0
    | 1 => simp only [List.getElem?_cons_zero, List.getElem?_cons_succ, Option.some.injEq] at hv hp; subst hv; subst hp; exact rp1
    | 2 => simp only [List.getElem?_cons_zero, List.getElem?_cons_succ, Option.some.injEq] at hv hp; subst hv; subst hp; exact rp2
    | i + 3 => simp at hv)
  rw [show (km mx) 346 = 3 from by kernel_rfl] at run
  refine run.mono fun e W' ⟨he, bel⟩ => ?_
  subst he
  exact ⟨_, rfl, _, _, _, [], _, [], hW', trodAll_mk1 (shut_bool Tryz.underlying4 _), (trodAll_cons_mk (Below.trod laidOut (by kernel_rfl) (of_decide_eq_true (by kernel_rfl)) k0 bel lt0) (trodAll_cons_mk (Below.trod laidOut (by kernel_rfl) (of_decide_eq_true (by kernel_rfl)) k1 bel lt1) (trodAll_cons_mk (Below.trod laidOut (by kernel_rfl) (of_decide_eq_true (by kernel_rfl)) k2 bel lt2) trodAll_mk0))), rfl, bel.frame _, fun h => by cases h⟩
theorem over : Rows.watchPlainRow.holds Tryz.pinned (OpenSpec.ofChange Rows.watchPlainSpec) :=
  OpenClaim.holds_of_wide 3 Tryz.f3 rfl rfl rfl rfl rfl rfl rfl ⟨rfl, rfl, rfl, rfl, rfl⟩ rfl rfl rfl rfl rfl (by kernel_rfl) Tryz.func3 (by kernel_rfl)
    (of_decide_eq_true (by kernel_rfl)) (by unfold Func.isWrapper; first | (rw [if_pos (by decide +kernel)]; kernel_rfl) | (rw [if_neg (by decide +kernel)]; exact ⟨rfl, rfl⟩))
    (fun os started H enc _ => lifted os started H enc)
theorem card_holds : Rows.WatchPlainCardSaid :=
  Claim7.holds_tied_plain_at .later [] [.data, .pinned] true (true, "d165b8c3435686308b03e2428c0394a00abb74ee1c90edfe137f861cb4c97536") false
    over (fun _ h => by cases h) (by kernel_rfl) (fun _ h => by cases h) watchPlain_row_tie rfl ⟨rfl, rfl⟩ (by kernel_rfl) rfl
    (fun f fn hf hfn => by
      obtain rfl : f = 3 := Option.some.inj ((show Tryz.prog.funcNamed "transhipment/transhipmentlaw14.WatchPlain" = some 3 by kernel_rfl).symm.trans hf) |>.symm
      obtain rfl : fn = Tryz.f3 := (Option.some.inj (Tryz.func3.symm.trans hfn)).symm
      exact ⟨by kernel_rfl, fun j t ht => by
        rw [Tryz.params3] at ht
        have h3 : t = 24 ∨ t = 25 ∨ t = 25 := by
          match j with
          | 0 => have := ht.symm; simp only [List.getElem?_toArray, List.getElem?_cons_zero, List.getElem?_cons_succ, Option.some.injEq] at this; simp [this]
          | 1 => have := ht.symm; simp only [List.getElem?_toArray, List.getElem?_cons_zero, List.getElem?_cons_succ, Option.some.injEq] at this; simp [this]
          | 2 => have := ht.symm; simp only [List.getElem?_toArray, List.getElem?_cons_zero, List.getElem?_cons_succ, Option.some.injEq] at this; simp [this]
          | j + 3 => simp at ht
        rcases h3 with rfl | rfl | rfl
        · exact (show Tryz.prog.wantsStandIn 24 = false by kernel_rfl)
        · exact (show Tryz.prog.wantsStandIn 25 = false by kernel_rfl)
        · exact (show Tryz.prog.wantsStandIn 25 = false by kernel_rfl)
      ⟩)
    (by kernel_rfl)
#print axioms card_holds
end Go.Proofs.YtcpgkdaicglogaaGreatDoor.watchPlain
namespace Go.Proofs.YtcpgkdaicglogaaGreatDoor
theorem watchPlain_holds : Rows.WatchPlainCardSaid := watchPlain.card_holds
end Go.Proofs.YtcpgkdaicglogaaGreatDoor

