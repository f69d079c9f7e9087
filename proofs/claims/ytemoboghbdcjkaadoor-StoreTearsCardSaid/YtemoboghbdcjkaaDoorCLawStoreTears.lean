/-
The statement StoreTears: proved for every input, with no condition.
-/
import Derived.Test.YtemoboghbdcjkaaDoorRows
import Derived.Test.YtemoboghbdcjkaaDoorCPvEa
import Derived.Test.YtemoboghbdcjkaaDoorCPvRe
import Derived.WalkKit
import Derived.ProofKit
import Derived.OpenShut
import Derived.ShutString
import Derived.ChangeOld
import Derived.Below
import Derived.SizedLaws
import Derived.LaidMore
import Derived.Stop.Joined
import Derived.Carry
import Derived.Lay
import Derived.KernelRfl
import Derived.Test.YtemoboghbdcjkaaDoorTie
import Derived.Test.YtemoboghbdcjkaaDoorCards
import Derived.SevenTiedAt
namespace Go.Proofs.YtemoboghbdcjkaaDoor.storeTears
open Go.ChangeShapes Go.WideShapes Go.ChangeAt Go.RowKit
open Go.Proofs.YtemoboghbdcjkaaDoorPv
set_option linter.unusedVariables false
set_option linter.unusedSimpArgs false
theorem alive : AV env 254 [] = some (.sc (.bool true)) := AV_run 60 (by kernel_rfl)
theorem own : ownKnob Tryd.prog.godebug = none := by kernel_rfl
theorem laidOut : laidOutB Tryd.prog = true := by kernel_rfl
def laidL : List (String × DataW Unit) := [("unicode/utf8.acceptRanges", Rows.laid_unicode_utf8_acceptRanges), ("unicode/utf8.first", Rows.laid_unicode_utf8_first)]
theorem door_met (os : Os) (args : Array Value) : laidMetH Tryd.prog laidL ((World.laidAll Tryd.prog os laidL).forCall (fun _ _ => 0) ⟨#[], args, []⟩).memory :=
  laidMetH_of_parts3 (fuel := 8) (by rw [show (laidL.filter fun x => x.2.handleName?.isNone) = laidL from by kernel_rfl]; exact laidMet_laidAll _ (by kernel_rfl) (by kernel_rfl)) (by kernel_rfl) (by kernel_rfl)
set_option maxRecDepth 100000 in
theorem lifted (os : Os) (started : os.Started) (H : Type) (enc : TypeId × Value → H) :
    ReturnsInHanded {} Tryd.checked os 5 .any (fun w args => (Rows.storeTearsSpec.pre enc Tryd.prog Tryd.f5 [] false w args ∧ laidMetH Tryd.prog laidL w) ∧ sizedMet enc Tryd.prog Tryd.f5 (OpenSpec.ofChange Rows.storeTearsSpec) false w args)
      (Rows.storeTearsSpec.post enc Tryd.prog Tryd.f5 false true false false) := by
  refine returnsInHanded_of_change_and (C := Tryd.checked) (X := fun w _ => laidMetH Tryd.prog laidL w) (fun _ _ _ hh h => h.of_heap hh) own started (by kernel_rfl) Tryd.func5
    (ChangeSpec.witness_shaped (enc := enc) (C := Tryd.checked) (os := os) (X := fun w _ => laidMetH Tryd.prog laidL w) false (World.laidAll Tryd.prog os laidL) #[.slice none 0 0, .slice none 0 0, .int .i64 0, .string ⟨#[]⟩] 8 rfl (World.shaped_of_ZipB (by kernel_rfl) (by kernel_rfl)) (by kernel_rfl) (by kernel_rfl) (by kernel_rfl) (door_met os _)) ?_
  intro W base args ds gs before hval0 hW _ hsz0 hL _
  have hsz : (DataW.weightsEach Tryd.prog (Tryd.f5.params.toList ++ Rows.storeTearsSpec.plain.varTypes Tryd.prog) (ds ++ gs)).all (· ≤ reachBytes) = true := hsz0
  have hval : ∀ (j : Nat) t v, Tryd.f5.params[j]? = some t → args[j]? = some v → Value.okWide Tryd.prog W .any base t v := hval0
  have hW' := hW
  obtain ⟨p, q, hA0, hV, rfl, hfz, hnd⟩ := hW
  have hA : DataW.TrodAll enc Tryd.prog W 0 (fun _ => true) true Tryd.f5.params.toList args.toList ds p := hA0
  rw [Tryd.params5] at hA hval hsz
  obtain ⟨v0, vs0, d0, ds0, p0, q0, hargs, rfl, rfl, h0, r0⟩ := trodAll_cons hA
  obtain ⟨v1, vs1, d1, ds1, p1, q1, rfl, rfl, rfl, h1, r1⟩ := trodAll_cons r0
  obtain ⟨v2, vs2, d2, ds2, p2, q2, rfl, rfl, rfl, h2, r2⟩ := trodAll_cons r1
  obtain ⟨v3, vs3, d3, ds3, p3, q3, rfl, rfl, rfl, h3, r3⟩ := trodAll_cons r2
  obtain ⟨rfl, rfl, rfl⟩ := trodAll_nil r3
  obtain rfl : args = #[v0, v1, v2, v3] := by cases args; simp_all
  obtain ⟨rfl, rfl⟩ := trodVars_none hV
  have wt0 : ∀ x ∈ d0.weights Tryd.prog 47, x ≤ reachBytes := fun x hx => by simpa using List.all_eq_true.1 hsz x (DataW.weights_mem_each (j := 0) rfl rfl x hx)
  have k0 := h0
  have lt0 : ∀ x ∈ p0, x.block < W.heap.size := by obtain ⟨m, hm⟩ := k0; exact DataW.trod_lt m _ _ _ hm
  obtain ⟨l0, is0, rp0⟩ := open_arg (n := 8) (km := km) (K := fun _ _ => none) (by kernel_rfl) (hval 0 47 v0 rfl rfl) h0 wt0
  obtain ⟨a0, ea0, ha0⟩ := txts_of is0 (by kernel_rfl)
  subst ea0
  rw [show mkPV (Go.Proofs.YtemoboghbdcjkaaDoorPv.isAgg Tryd.prog 47) [PV.sl (txts a0)] = .sl (txts a0) by rw [show Go.Proofs.YtemoboghbdcjkaaDoorPv.isAgg Tryd.prog 47 = false from by kernel_rfl]; rfl] at rp0
  have wt1 : ∀ x ∈ d1.weights Tryd.prog 48, x ≤ reachBytes := fun x hx => by simpa using List.all_eq_true.1 hsz x (DataW.weights_mem_each (j := 1) rfl rfl x hx)
  have k1 := h1
  have lt1 : ∀ x ∈ p1, x.block < W.heap.size := by obtain ⟨m, hm⟩ := k1; exact DataW.trod_lt m _ _ _ hm
  obtain ⟨l1, is1, rp1⟩ := open_arg (n := 8) (km := km) (K := fun _ _ => none) (by kernel_rfl) (hval 1 48 v1 rfl rfl) h1 wt1
  obtain ⟨a1, ea1, ha1⟩ := bools_of is1 (by kernel_rfl)
  subst ea1
  rw [show mkPV (Go.Proofs.YtemoboghbdcjkaaDoorPv.isAgg Tryd.prog 48) [PV.sl (bls a1)] = .sl (bls a1) by rw [show Go.Proofs.YtemoboghbdcjkaaDoorPv.isAgg Tryd.prog 48 = false from by kernel_rfl]; rfl] at rp1
  have wt2 : ∀ x ∈ d2.weights Tryd.prog 3, x ≤ reachBytes := fun x hx => by simpa using List.all_eq_true.1 hsz x (DataW.weights_mem_each (j := 2) rfl rfl x hx)
  have k2 := h2
  have lt2 : ∀ x ∈ p2, x.block < W.heap.size := by obtain ⟨m, hm⟩ := k2; exact DataW.trod_lt m _ _ _ hm
  obtain ⟨l2, is2, rp2⟩ := open_arg (n := 8) (km := km) (K := fun _ _ => none) (by kernel_rfl) (hval 2 3 v2 rfl rfl) h2 wt2
  obtain ⟨a2, ea2, ha2⟩ := is2.int' (k := .i64) (by kernel_rfl)
  subst ea2
  rw [show mkPV (Go.Proofs.YtemoboghbdcjkaaDoorPv.isAgg Tryd.prog 3) [PV.sc (.int .i64 a2)] = .sc (.int .i64 a2) by rw [show Go.Proofs.YtemoboghbdcjkaaDoorPv.isAgg Tryd.prog 3 = false from by kernel_rfl]; rfl] at rp2
  have wt3 : ∀ x ∈ d3.weights Tryd.prog 9, x ≤ reachBytes := fun x hx => by simpa using List.all_eq_true.1 hsz x (DataW.weights_mem_each (j := 3) rfl rfl x hx)
  have k3 := h3
  have lt3 : ∀ x ∈ p3, x.block < W.heap.size := by obtain ⟨m, hm⟩ := k3; exact DataW.trod_lt m _ _ _ hm
  obtain ⟨l3, is3, rp3⟩ := open_arg (n := 8) (km := km) (K := fun _ _ => none) (by kernel_rfl) (hval 3 9 v3 rfl rfl) h3 wt3
  obtain ⟨a3, ea3, ha3⟩ := is3.str' (by kernel_rfl)
  subst ea3
  rw [show mkPV (Go.Proofs.YtemoboghbdcjkaaDoorPv.isAgg Tryd.prog 9) [PV.sc (.string a3)] = .sc (.string a3) by rw [show Go.Proofs.YtemoboghbdcjkaaDoorPv.isAgg Tryd.prog 9 = false from by kernel_rfl]; rfl] at rp3
  clear hA0 hval0 hsz0 hsz
  have ans : AV env 250 [.sl (txts a0), .sl (bls a1), .sc (.int .i64 a2), .sc (.string a3)] = some (.sc (.bool true)) := (by rw [← txt_eta a3]; exact Go.Proofs.YtemoboghbdcjkaaDoorPv.a250 ⟨has_law, has_lda, has_ldb, has_ldc, has_ljc, has_lje, has_lja, has_ljd, has_ljb, has_ljh⟩ has_ljf has_ljg has_ljl has_lib has_lic has_lie has_lii has_ljm alive (Nat.le_trans ha0 (by decide)) a1 a2 a3.data.toList)
  have run := law_calls Go.Proofs.YtemoboghbdcjkaaDoorPv.mixed Go.Proofs.YtemoboghbdcjkaaDoorPv.linked (gl := ⟨fun _ _ h => h.elim, trivial⟩) (vs := [v0, v1, v2, v3]) (w := W) (h := ans) (hl := rfl) (hr := fun i v p hv hp => by
    match i with
    | 0 => simp only [List.getElem?_cons_zero, List.getElem?_cons_succ, Option.some.injEq] at hv hp; subst hv; subst hp; exact rp0
    | 1 => simp only [List.getElem?_cons_zero, List.getElem?_cons_succ, Option.some.injEq] at hv hp; subst hv; subst hp; exact rp1
    | 2 => simp only [List.getElem?_cons_zero, List.getElem?_cons_succ, Option.some.injEq] at hv hp; subst hv; subst hp; exact rp2
    | 3 => simp only [List.getElem?_cons_zero, List.getElem?_cons_succ, Option.some.injEq] at hv hp; subst hv; subst hp; exact rp3
    | i + 4 => simp at hv)
  rw [show km 250 = 5 from by kernel_rfl] at run
  refine run.mono fun e W' ⟨he, bel⟩ => ?_
  subst he
  exact ⟨_, rfl, _, _, _, [], _, [], hW', trodAll_mk1 (shut_bool Tryd.underlying4 _), (trodAll_cons_mk (Below.trod laidOut (by kernel_rfl) (of_decide_eq_true (by kernel_rfl)) k0 bel lt0) (trodAll_cons_mk (Below.trod laidOut (by kernel_rfl) (of_decide_eq_true (by kernel_rfl)) k1 bel lt1) (trodAll_cons_mk (Below.trod laidOut (by kernel_rfl) (of_decide_eq_true (by kernel_rfl)) k2 bel lt2) (trodAll_cons_mk (Below.trod laidOut (by kernel_rfl) (of_decide_eq_true (by kernel_rfl)) k3 bel lt3) trodAll_mk0)))), rfl, bel.frame _, fun h => by cases h⟩
theorem over : Rows.storeTearsRow.holds Tryd.pinned (OpenSpec.ofChange Rows.storeTearsSpec) :=
  OpenClaim.holds_of_wide 5 Tryd.f5 rfl rfl rfl rfl rfl rfl rfl ⟨rfl, rfl, rfl, rfl, rfl⟩ rfl rfl rfl rfl rfl (by kernel_rfl) Tryd.func5 (by kernel_rfl)
    (of_decide_eq_true (by kernel_rfl)) (by unfold Func.isWrapper; first | (rw [if_pos (by decide +kernel)]; kernel_rfl) | (rw [if_neg (by decide +kernel)]; exact ⟨rfl, rfl⟩))
    (fun os started H enc _ => lifted os started H enc)
theorem card_holds : Rows.StoreTearsCardSaid :=
  Claim7.holds_tied_plain_at .later [] [.data, .pinned] true (true, "329f30ec2e1d019ec440e8a64ed1b9cd09c1cc41215f2069fed085dc877a7452") false
    over (fun _ h => by cases h) (by kernel_rfl) (fun _ h => by cases h) storeTears_row_tie rfl ⟨rfl, rfl⟩ (by kernel_rfl) rfl
    (fun f fn hf hfn => by
      obtain rfl : f = 5 := Option.some.inj ((show Tryd.prog.funcNamed "transhipment/transhipmentlaw19.StoreTears" = some 5 by kernel_rfl).symm.trans hf) |>.symm
      obtain rfl : fn = Tryd.f5 := (Option.some.inj (Tryd.func5.symm.trans hfn)).symm
      exact ⟨by kernel_rfl, fun j t ht => by
        rw [Tryd.params5] at ht
        have h3 : t = 47 ∨ t = 48 ∨ t = 3 ∨ t = 9 := by
          match j with
          | 0 => have := ht.symm; simp only [List.getElem?_toArray, List.getElem?_cons_zero, List.getElem?_cons_succ, Option.some.injEq] at this; simp [this]
          | 1 => have := ht.symm; simp only [List.getElem?_toArray, List.getElem?_cons_zero, List.getElem?_cons_succ, Option.some.injEq] at this; simp [this]
          | 2 => have := ht.symm; simp only [List.getElem?_toArray, List.getElem?_cons_zero, List.getElem?_cons_succ, Option.some.injEq] at this; simp [this]
          | 3 => have := ht.symm; simp only [List.getElem?_toArray, List.getElem?_cons_zero, List.getElem?_cons_succ, Option.some.injEq] at this; simp [this]
          | j + 4 => simp at ht
        rcases h3 with rfl | rfl | rfl | rfl
        · exact (show Tryd.prog.wantsStandIn 47 = false by kernel_rfl)
        · exact (show Tryd.prog.wantsStandIn 48 = false by kernel_rfl)
        · exact (show Tryd.prog.wantsStandIn 3 = false by kernel_rfl)
        · exact (show Tryd.prog.wantsStandIn 9 = false by kernel_rfl)
      ⟩)
    (by kernel_rfl)
#print axioms card_holds
end Go.Proofs.YtemoboghbdcjkaaDoor.storeTears
namespace Go.Proofs.YtemoboghbdcjkaaDoor
theorem storeTears_holds : Rows.StoreTearsCardSaid := storeTears.card_holds
end Go.Proofs.YtemoboghbdcjkaaDoor

