/-
Own texts of the proof, merged: part 1.
-/
import Derived.Test.YtemoboghbdcjkaaDoorPvY
import Derived.Test.YtemoboghbdcjkaaDoorPvPc
import Derived.Test.YtemoboghbdcjkaaDoorPvU
import Derived.Lib.CutLaws
import Derived.Lib.IndexLaws
import Derived.Test.YtemoboghbdcjkaaDoorPvPe
import Derived.Test.YtemoboghbdcjkaaDoorPvP
namespace Go.Proofs.YtemoboghbdcjkaaDoorPv
open Go
set_option linter.unusedSimpArgs false
set_option linter.unusedVariables false
set_option maxHeartbeats 4000000
set_option maxRecDepth 8000
section
def stepC (c : Nat) : Nat := if c % 2 = 1 then (c / 2) ^^^ 3988292384 else c / 2
def stepsC : Nat → Nat → Nat
  | 0, c => c
  | k + 1, c => stepC (stepsC k c)
def onC (c : Nat) (b : UInt8) : Nat := stepsC 8 (c ^^^ b.toNat)
def crcC (l : List UInt8) : Nat := l.foldl onC 4294967295
theorem stepC_lt {c : Nat} (h : c < 4294967296) : stepC c < 4294967296 := by
  unfold stepC
  split
  · exact Nat.xor_lt_two_pow (n := 32) (by omega) (by decide)
  · omega
theorem stepsC_lt {c : Nat} (h : c < 4294967296) : ∀ k, stepsC k c < 4294967296
  | 0 => h
  | k + 1 => stepC_lt (stepsC_lt h k)
theorem onC_lt {c : Nat} (h : c < 4294967296) (b : UInt8) : onC c b < 4294967296 :=
  stepsC_lt (Nat.xor_lt_two_pow (n := 32) h (Nat.lt_of_lt_of_le b.toNat_lt (by decide))) 8
theorem fold_lt : ∀ (l : List UInt8) (c : Nat), c < 4294967296 → l.foldl onC c < 4294967296
  | [], c, h => h
  | b :: l, c, h => fold_lt l (onC c b) (onC_lt h b)
theorem crcC_lt (l : List UInt8) : crcC l < 4294967296 := fold_lt l _ (by decide)
theorem crcC_snoc (l : List UInt8) (b : UInt8) : crcC (l ++ [b]) = onC (crcC l) b := by
  unfold crcC
  rw [List.foldl_append]; rfl
theorem turn_all {c : Nat} (h : c < 4294967296) : c ^^^ 4294967295 = 4294967295 - c := by
  apply Nat.eq_of_testBit_eq
  intro i
  have e1 : (4294967295 - c).testBit i = (decide (i < 32) && !c.testBit i) := by
    have := Nat.testBit_two_pow_sub_succ (n := 32) h i
    rwa [show (2 : Nat) ^ 32 - (c + 1) = 4294967295 - c by omega] at this
  rw [e1, Nat.testBit_xor, show (4294967295 : Nat) = 2 ^ 32 - 1 from rfl, Nat.testBit_two_pow_sub_one]
  by_cases hi : i < 32
  · simp [hi]
  · have : c.testBit i = false := Nat.testBit_lt_two_pow (Nat.lt_of_lt_of_le (show c < 2 ^ 32 from h) (Nat.pow_le_pow_right (by decide) (Nat.le_of_not_lt hi)))
    simp [hi, this]

def encN (n : Nat) : List UInt8 := if h : n < 128 then [UInt8.ofNat n] else UInt8.ofNat (n % 128 + 128) :: encN (n / 128)
termination_by n
decreasing_by omega
def rdN (short long syn : Int) : List UInt8 → Nat → Nat → Nat × Nat × Int
  | l, i, n => if i = 9 then (0, 0, long) else match l with
    | [] => (0, 0, short)
    | c :: r => if c.toNat ≥ 128 then rdN short long syn r (i + 1) (n + c.toNat % 128 * 128 ^ i) else if c.toNat = 0 ∧ i > 0 then (0, 0, syn) else (n + c.toNat % 128 * 128 ^ i, i + 1, 0)
theorem ofNat_small {n : Nat} (h : n < 256) : (UInt8.ofNat n).toNat = n := by
  rw [UInt8.toNat_ofNat']; omega
theorem rdN_ok {a b c : Int} (ha : a ≠ 0) (hb : b ≠ 0) (hc : c ≠ 0) : ∀ (l : List UInt8) (i n : Nat) (v k : Nat), i ≤ 9 → rdN a b c l i n = (v, k, 0) → ∃ q, v = n + q * 128 ^ i ∧ i < k ∧ k ≤ 9 ∧ encN q = l.take (k - i) ∧ k - i ≤ l.length ∧ (i > 0 → q ≠ 0)
  | l, i, n, v, k, hi9, h => by
    unfold rdN at h
    split at h
    · simp only [Prod.mk.injEq] at h; exact absurd h.2.2 hb
    · rename_i h9
      split at h
      · simp only [Prod.mk.injEq] at h; exact absurd h.2.2 ha
      · rename_i x r
        split at h
        · rename_i hx
          obtain ⟨q, h1, h2, h3, h4, h5, h6⟩ := rdN_ok ha hb hc r (i + 1) _ v k (by omega) h
          have hq := h6 (by omega)
          have hxl := x.toNat_lt
          refine ⟨x.toNat % 128 + 128 * q, ?_, by omega, h3, ?_, ?_, fun _ => by omega⟩
          · rw [h1, Nat.pow_succ, Nat.add_mul, Nat.mul_comm 128 q, Nat.mul_assoc, Nat.mul_comm 128 (128 ^ i), Nat.add_assoc]
          · rw [encN, dif_neg (by omega)]
            have e1 : (x.toNat % 128 + 128 * q) % 128 + 128 = x.toNat := by omega
            have e2 : (x.toNat % 128 + 128 * q) / 128 = q := by omega
            rw [e1, e2, h4, show k - i = (k - (i + 1)) + 1 by omega, List.take_succ_cons, UInt8.ofNat_toNat]
          · simp only [List.length_cons]; omega
        · rename_i hx
          split at h
          · simp only [Prod.mk.injEq] at h; exact absurd h.2.2 hc
          · rename_i hz
            simp only [Prod.mk.injEq, and_true] at h
            obtain ⟨rfl, rfl⟩ := h
            refine ⟨x.toNat % 128, rfl, by omega, by omega, ?_, ?_, fun h0 => by omega⟩
            · rw [encN, dif_pos (by omega), show x.toNat % 128 = x.toNat by omega, show i + 1 - i = 1 by omega, UInt8.ofNat_toNat]
              rfl
            · simp only [List.length_cons]; omega

def chkB (d : List UInt8) : List UInt8 :=
  [UInt8.ofNat ((4294967295 - crcC d) % 256), UInt8.ofNat ((4294967295 - crcC d) / 256 % 256), UInt8.ofNat ((4294967295 - crcC d) / 65536 % 256), UInt8.ofNat ((4294967295 - crcC d) / 16777216)]
theorem chkB_len (d : List UInt8) : (chkB d).length = 4 := rfl
def recB (d : List UInt8) : List UInt8 := encN d.length ++ d ++ chkB d
def headN (s : List UInt8) : Nat × Nat × Int := rdN 3 2 6 s 0 0
theorem headN_ok {s : List UInt8} {v k : Nat} (h : headN s = (v, k, 0)) : 0 < k ∧ k ≤ 9 ∧ encN v = s.take k ∧ k ≤ s.length := by
  obtain ⟨q, h1, h2, h3, h4, h5, _⟩ := rdN_ok (by decide) (by decide) (by decide) s 0 0 v k (by decide) h
  simp only [Nat.zero_add, Nat.pow_zero, Nat.mul_one, Nat.sub_zero] at h1 h4 h5
  subst h1
  exact ⟨h2, h3, h4, h5⟩
def scanF : Nat → List UInt8 → List (List UInt8)
  | 0, _ => []
  | f + 1, s => if s = [] then [] else
    if (headN s).2.2 ≠ 0 ∨ (headN s).1 > 4096 ∨ (headN s).2.1 + (headN s).1 + 4 > s.length then [] else
    if (s.drop ((headN s).2.1 + (headN s).1)).take 4 ≠ chkB ((s.drop (headN s).2.1).take (headN s).1) then [] else
    (s.drop (headN s).2.1).take (headN s).1 :: scanF f (s.drop ((headN s).2.1 + (headN s).1 + 4))
def scanS (s : List UInt8) : List (List UInt8) := scanF s.length s
theorem rec_iff {s : List UInt8} {v k : Nat} (h : headN s = (v, k, 0)) (hl : k + v + 4 ≤ s.length) : s.take (k + v + 4) = recB ((s.drop k).take v) ↔ (s.drop (k + v)).take 4 = chkB ((s.drop k).take v) := by
  obtain ⟨h1, h2, h3, h4⟩ := headN_ok h
  have hdl : ((s.drop k).take v).length = v := by rw [List.length_take, List.length_drop]; omega
  have e : s.take (k + v + 4) = s.take k ++ (s.drop k).take v ++ (s.drop (k + v)).take 4 := by
    rw [List.take_add, List.take_add]
  unfold recB
  rw [e, hdl, h3]
  constructor
  · intro hq; exact List.append_cancel_left hq
  · intro hq; rw [hq]
theorem scanF_pre : ∀ (f : Nat) (s : List UInt8), ∃ t, s = (scanF f s).flatMap recB ++ t
  | 0, s => ⟨s, rfl⟩
  | f + 1, s => by
    unfold scanF
    split
    · exact ⟨s, rfl⟩
    · split
      · exact ⟨s, rfl⟩
      · rename_i h1
        split
        · exact ⟨s, rfl⟩
        · rename_i h2
          rcases hq : headN s with ⟨v, k, e⟩
          rw [hq] at h1 h2
          simp only [not_or, Decidable.not_not, Nat.not_lt] at h1 h2
          obtain ⟨he, hv, hl⟩ := h1
          try simp only at he hv hl h2
          subst he
          have hr := (rec_iff hq (by omega)).2 h2
          obtain ⟨t, ht⟩ := scanF_pre f (s.drop (k + v + 4))
          refine ⟨t, ?_⟩
          rw [List.flatMap_cons, List.append_assoc, ← ht, ← hr, List.take_append_drop]

end
section
attribute [local go_sem ↓] e_mv e_pick e_bin e_eqs e_beq e_un e_cvi e_str e_s2b e_b2s e_box e_build e_bsl e_ld e_st e_nck e_mkf e_slcS e_slcL e_fa e_fld e_ia e_iaa e_ix e_ixa e_ext e_lenS e_lenL e_mnmx e_app e_appb e_bbx e_msl e_clr e_call e_callv e_icall e_slcA e_mkm e_mput e_mget e_mlen e_mdel pa_t pa_c pa_f slcSP_str hiOf_some hiOf_none loOf_some loOf_none set_eq set_ne
attribute [local go_sem] pv pv1 simple frOf_0 frOf_1 frOf_2 frOf_3 frOf_4 frOf_5 ne_eq not_false_eq_true if_true Bool.false_eq_true if_false pbin punary Option.map_some Option.bind_some pick_and pick_or opt_true Bool.true_and Bool.and_self Bool.and_true Bool.true_or Bool.false_or Bool.not_true Bool.not_false callE pcall_eq List.map_cons List.map_nil List.append_nil List.nil_append List.cons_append mapM_cons' mapM_nil' dep_eq fz_sc fz_sl fz_em fz_fn fz_fp fz_agg fz_tu fz_bx fz_ob Nat.lt_irrefl Nat.zero_lt_one Nat.lt_add_one flat clL cl Bool.or_true okc_sc okc_em okc_sl okc_ob okc_bx okc_fp okc_fn okc_agg okc_ifc cells_agg cells_sc cells_sl cells_em cells_ob cells_fn cells_bx cells_fp List.length_cons List.length_nil Nat.zero_add and_self true_and and_true new_m new_c put_m put_c nil_m nil_c nil_mm new_mm put_mm newM_m newM_c newM_mm putM_m putM_c putM_mm mkeyV_1 mkeyV_2 mapAt_eq deref List.getElem?_cons_zero List.getElem?_cons_succ List.drop_zero List.drop_succ_cons List.take_succ_cons List.take_zero Nat.le_refl false_and and_false decide_true decide_false lenP_em lenP_nil lenP_sl lenP_ob Int.ofNat_zero
def d85 : Def := (.code 2 [.tmp 4] (.seq (.rg false [⟨.some 4, .none, .mv (.c (.int .i64 0))⟩]) (.seq (.seq (.rg false [⟨.some 6, .none, .mv (.t 0)⟩, ⟨.some 7, .none, .lenL (.t 6)⟩, ⟨.some 8, .none, .mv (.c (.int .i64 0))⟩]) (.block 0 (.loop (.seq (.rg false [⟨.some 9, .none, .bin .lss (.t 8) (.t 7)⟩]) (.seq (.cond (.t 9) .skip (.exit 0)) (.seq (.block 1 (.seq (.rg false [⟨.some 10, .none, .mv (.t 8)⟩, ⟨.some 5, .none, .mv (.t 10)⟩]) (.seq (.rg false [⟨.some 11, .none, .mv (.t 1)⟩, ⟨.some 12, .none, .mv (.t 0)⟩, ⟨.some 13, .none, .mv (.t 5)⟩, ⟨.some 14, .none, .ia 1 (.t 12) (.t 13)⟩, ⟨.some 15, .none, .ld .none (.t 14)⟩, ⟨.some 16, .none, .callv (.t 11) .pure [.t 15]⟩]) (.cond (.t 16) (.seq (.rg false [⟨.some 17, .none, .mv (.t 5)⟩, ⟨.some 4, .none, .mv (.t 17)⟩]) .ret) .skip)))) (.rg false [⟨.some 18, .none, .bin .add (.t 8) (.c (.int .i64 1))⟩, ⟨.some 8, .none, .mv (.t 18)⟩]))))))) (.seq (.rg false [⟨.some 4, .none, .mv (.c (.int .i64 (-1)))⟩]) .ret))))
def d67 : Def := (.code 2 [.tmp 4] (.seq (.rg false [⟨.some 4, .none, .mv (.c (.bool false))⟩]) (.seq (.rg false [⟨.some 5, .none, .mv (.t 0)⟩, ⟨.some 6, .none, .mv (.t 1)⟩, ⟨.some 7, .none, .call 85 .pure [.t 5, .t 6]⟩, ⟨.some 8, .none, .bin .geq (.t 7) (.c (.int .i64 0))⟩, ⟨.some 4, .none, .mv (.t 8)⟩]) .ret)))
def d66 : Def := (.code 1 [.tmp 2] (.seq (.rg false [⟨.some 2, .none, .mv (.c (.bool false))⟩]) (.seq (.rg false [⟨.some 3, .none, .mv (.t 0)⟩, ⟨.some 4, .none, .bin .lss (.t 3) (.c (.int .u8 97))⟩, ⟨.some 5, .none, .mv (.t 4)⟩, ⟨.some 6, .some (5, false), .mv (.t 0)⟩, ⟨.some 7, .some (5, false), .bin .gtr (.t 6) (.c (.int .u8 122))⟩, ⟨.some 8, .none, .pick (.t 5) (.c (.bool true)) (.t 7)⟩, ⟨.some 9, .none, .mv (.t 8)⟩, ⟨.some 10, .some (9, true), .mv (.t 0)⟩, ⟨.some 11, .some (9, true), .bin .lss (.t 10) (.c (.int .u8 48))⟩, ⟨.some 12, .some (9, true), .mv (.t 11)⟩, ⟨.some 13, .some (12, false), .mv (.t 0)⟩, ⟨.some 14, .some (12, false), .bin .gtr (.t 13) (.c (.int .u8 57))⟩, ⟨.some 15, .some (9, true), .pick (.t 12) (.c (.bool true)) (.t 14)⟩, ⟨.some 16, .none, .pick (.t 9) (.t 15) (.c (.bool false))⟩, ⟨.some 17, .none, .mv (.t 16)⟩, ⟨.some 18, .some (17, true), .mv (.t 0)⟩, ⟨.some 19, .some (17, true), .bin .neq (.t 18) (.c (.int .u8 95))⟩, ⟨.some 20, .none, .pick (.t 17) (.t 19) (.c (.bool false))⟩, ⟨.some 2, .none, .mv (.t 20)⟩]) .ret)))
def d49 : Def := (.code 1 [.tmp 2] (.seq (.rg false [⟨.some 2, .none, .mv (.c (.bool false))⟩]) (.seq (.rg false [⟨.some 3, .none, .mv (.f 66)⟩]) (.seq (.rg false [⟨.some 4, .none, .mv (.t 0)⟩, ⟨.some 5, .none, .bin .neq (.t 4) (.c (.string ⟨#[]⟩))⟩, ⟨.some 6, .none, .mv (.t 5)⟩, ⟨.some 7, .some (6, true), .mv (.t 0)⟩, ⟨.some 8, .some (6, true), .lenS (.t 7)⟩, ⟨.some 9, .some (6, true), .bin .leq (.t 8) (.c (.int .i64 64))⟩, ⟨.some 10, .none, .pick (.t 6) (.t 9) (.c (.bool false))⟩, ⟨.some 11, .none, .mv (.t 10)⟩, ⟨.some 12, .some (11, true), .mv (.t 0)⟩, ⟨.some 13, .some (11, true), .s2b (.t 12)⟩, ⟨.some 14, .some (11, true), .mv (.t 3)⟩, ⟨.some 15, .some (11, true), .call 67 .pure [.t 13, .t 14]⟩, ⟨.some 16, .some (11, true), .un .not (.t 15)⟩, ⟨.some 17, .none, .pick (.t 11) (.t 16) (.c (.bool false))⟩, ⟨.some 2, .none, .mv (.t 17)⟩]) .ret))))
def d138 : Def := (.code 1 [.tmp 2] (.seq (.rg false [⟨.some 2, .none, .mv (.c (.bool false))⟩]) (.seq (.rg false [⟨.some 3, .none, .mv (.t 0)⟩, ⟨.some 4, .none, .bin .geq (.t 3) (.c (.int .u8 97))⟩, ⟨.some 5, .none, .mv (.t 4)⟩, ⟨.some 6, .some (5, true), .mv (.t 0)⟩, ⟨.some 7, .some (5, true), .bin .leq (.t 6) (.c (.int .u8 122))⟩, ⟨.some 8, .none, .pick (.t 5) (.t 7) (.c (.bool false))⟩, ⟨.some 9, .none, .mv (.t 8)⟩, ⟨.some 10, .some (9, false), .mv (.t 0)⟩, ⟨.some 11, .some (9, false), .bin .geq (.t 10) (.c (.int .u8 65))⟩, ⟨.some 12, .some (9, false), .mv (.t 11)⟩, ⟨.some 13, .some (12, true), .mv (.t 0)⟩, ⟨.some 14, .some (12, true), .bin .leq (.t 13) (.c (.int .u8 90))⟩, ⟨.some 15, .some (9, false), .pick (.t 12) (.t 14) (.c (.bool false))⟩, ⟨.some 16, .none, .pick (.t 9) (.c (.bool true)) (.t 15)⟩, ⟨.some 17, .none, .mv (.t 16)⟩, ⟨.some 18, .some (17, false), .mv (.t 0)⟩, ⟨.some 19, .some (17, false), .bin .eql (.t 18) (.c (.int .u8 95))⟩, ⟨.some 20, .none, .pick (.t 17) (.c (.bool true)) (.t 19)⟩, ⟨.some 2, .none, .mv (.t 20)⟩]) .ret)))
def d139 : Def := (.code 1 [.tmp 2] (.seq (.rg false [⟨.some 2, .none, .mv (.c (.bool false))⟩]) (.seq (.rg false [⟨.some 3, .none, .mv (.t 0)⟩, ⟨.some 4, .none, .bin .lss (.t 3) (.c (.int .u8 32))⟩, ⟨.some 5, .none, .mv (.t 4)⟩, ⟨.some 6, .some (5, false), .mv (.t 0)⟩, ⟨.some 7, .some (5, false), .bin .gtr (.t 6) (.c (.int .u8 126))⟩, ⟨.some 8, .none, .pick (.t 5) (.c (.bool true)) (.t 7)⟩, ⟨.some 2, .none, .mv (.t 8)⟩]) .ret)))
def d130 : Def := (.code 1 [.tmp 2] (.seq (.rg false [⟨.some 2, .none, .mv (.c (.bool false))⟩]) (.seq (.seq (.rg false [⟨.some 5, .none, .mv (.t 0)⟩, ⟨.some 6, .none, .lenS (.t 5)⟩, ⟨.some 7, .none, .mv (.c (.int .i64 0))⟩]) (.block 0 (.loop (.seq (.rg false [⟨.some 8, .none, .bin .lss (.t 7) (.t 6)⟩]) (.seq (.cond (.t 8) .skip (.exit 0)) (.seq (.block 1 (.seq (.rg false [⟨.some 9, .none, .mv (.t 7)⟩, ⟨.some 3, .none, .mv (.t 9)⟩]) (.seq (.rg false [⟨.some 10, .none, .mv (.t 0)⟩, ⟨.some 11, .none, .mv (.t 3)⟩, ⟨.some 12, .none, .ix (.t 10) (.t 11)⟩, ⟨.some 4, .none, .mv (.t 12)⟩]) (.seq (.rg false [⟨.some 13, .none, .mv (.t 4)⟩, ⟨.some 14, .none, .call 138 .pure [.t 13]⟩, ⟨.some 15, .none, .un .not (.t 14)⟩, ⟨.some 16, .none, .mv (.t 15)⟩, ⟨.some 17, .some (16, true), .mv (.t 3)⟩, ⟨.some 18, .some (16, true), .bin .eql (.t 17) (.c (.int .i64 0))⟩, ⟨.some 19, .some (16, true), .mv (.t 18)⟩, ⟨.some 20, .some (19, false), .mv (.t 4)⟩, ⟨.some 21, .some (19, false), .bin .lss (.t 20) (.c (.int .u8 48))⟩, ⟨.some 22, .some (16, true), .pick (.t 19) (.c (.bool true)) (.t 21)⟩, ⟨.some 23, .some (16, true), .mv (.t 22)⟩, ⟨.some 24, .some (23, false), .mv (.t 4)⟩, ⟨.some 25, .some (23, false), .bin .gtr (.t 24) (.c (.int .u8 57))⟩, ⟨.some 26, .some (16, true), .pick (.t 23) (.c (.bool true)) (.t 25)⟩, ⟨.some 27, .none, .pick (.t 16) (.t 26) (.c (.bool false))⟩]) (.cond (.t 27) (.seq (.rg false [⟨.some 2, .none, .mv (.c (.bool false))⟩]) .ret) .skip))))) (.rg false [⟨.some 28, .none, .bin .add (.t 7) (.c (.int .i64 1))⟩, ⟨.some 7, .none, .mv (.t 28)⟩]))))))) (.seq (.rg false [⟨.some 29, .none, .mv (.t 0)⟩, ⟨.some 30, .none, .bin .neq (.t 29) (.c (.string ⟨#[]⟩))⟩, ⟨.some 31, .none, .mv (.t 30)⟩, ⟨.some 32, .some (31, true), .mv (.t 0)⟩, ⟨.some 33, .some (31, true), .lenS (.t 32)⟩, ⟨.some 34, .some (31, true), .bin .leq (.t 33) (.c (.int .i64 64))⟩, ⟨.some 35, .none, .pick (.t 31) (.t 34) (.c (.bool false))⟩, ⟨.some 2, .none, .mv (.t 35)⟩]) .ret))))
def d131 : Def := (.code 1 [.tmp 2] (.seq (.rg false [⟨.some 2, .none, .mv (.c (.bool false))⟩]) (.seq (.rg false [⟨.some 3, .none, .mv (.t 0)⟩, ⟨.some 4, .none, .bin .neq (.t 3) (.c (.string ⟨#[]⟩))⟩, ⟨.some 5, .none, .mv (.t 4)⟩, ⟨.some 6, .some (5, true), .mv (.t 0)⟩, ⟨.some 7, .some (5, true), .lenS (.t 6)⟩, ⟨.some 8, .some (5, true), .bin .leq (.t 7) (.c (.int .i64 64))⟩, ⟨.some 9, .none, .pick (.t 5) (.t 8) (.c (.bool false))⟩, ⟨.some 10, .none, .mv (.t 9)⟩, ⟨.some 11, .some (10, true), .mv (.t 0)⟩, ⟨.some 12, .some (10, true), .s2b (.t 11)⟩, ⟨.some 13, .some (10, true), .call 67 .pure [.t 12, .f 139]⟩, ⟨.some 14, .some (10, true), .un .not (.t 13)⟩, ⟨.some 15, .none, .pick (.t 10) (.t 14) (.c (.bool false))⟩, ⟨.some 2, .none, .mv (.t 15)⟩]) .ret)))
def la0 : List (Nat × Def) := [(85, d85), (67, d67), (138, d138), (139, d139), (130, d130), (131, d131)]
def law : List (Nat × Def) := [(85, d85), (67, d67), (66, d66), (49, d49)]
def lax : List (Nat × Def) := [(85, d85), (67, d67)]
def Has (l : List (Nat × Def)) (env : Nat → Option Def) : Prop := ∀ p ∈ l, env p.1 = some p.2
section
variable {env : Nat → Option Def} {fr : Fr} {σ : St} {K : Fr → St → Prop}
theorem law_lax (H : Has law env) : Has lax env := fun p hp => H p (by
  simp only [lax, List.mem_cons, List.mem_nil_iff, or_false] at hp
  rcases hp with rfl | rfl <;> simp [law])
theorem a66 (H : Has law env) (c : Int) : AV env 66 [.sc (.int .u8 c)] = some (.sc (.bool ((decide (c < 97) || decide (c > 122)) && (decide (c < 48) || decide (c > 57)) && (c != 95)))) := by
  refine AV_wp (H (66, d66) (by simp [law])) rfl ?_
  (repeat' first
    | refine w_seq ?_ | refine w_rg ?_ | refine wo_nil ?_ | refine g_skU ?_ | refine g_skT ?_ | refine g_skF ?_
    | ((first | apply s_plain | apply s_void | apply s_guard | apply g_goT | apply g_goF); · simp only [go_sem, Nat.reduceEqDiff, Nat.reduceAdd, Nat.reduceLeDiff]; (first | done | rfl))
    | ((first | apply g_T | apply g_F | apply g_gT | apply g_gF); · intro q1_; (first | intro q2_ | have q2_ := q1_); simp only [go_sem, Nat.reduceEqDiff, Nat.reduceAdd, Nat.reduceLeDiff, q1_, q2_]; (first | done | rfl))
    | (apply w_condX; · simp only [go_sem, Nat.reduceEqDiff, Nat.reduceAdd, Nat.reduceLeDiff]; (first | done | rfl)); (first | refine wcd_T ?_ | refine wcd_F ?_)
    | refine w_skip ?_ | refine w_exit ?_ | refine w_ret ?_
    | fail
    )
  exact ⟨.inr rfl, by simp only [go_sem, Nat.reduceEqDiff, Nat.reduceAdd, Nat.reduceLeDiff, retOf, resOf]⟩
theorem a138 (H : Has la0 env) (c : Int) : AV env 138 [.sc (.int .u8 c)] = some (.sc (.bool ((decide (c ≥ 97) && decide (c ≤ 122)) || (decide (c ≥ 65) && decide (c ≤ 90)) || (c == 95)))) := by
  refine AV_wp (H (138, d138) (by simp [la0])) rfl ?_
  (repeat' first
    | refine w_seq ?_ | refine w_rg ?_ | refine wo_nil ?_ | refine g_skU ?_ | refine g_skT ?_ | refine g_skF ?_
    | ((first | apply s_plain | apply s_void | apply s_guard | apply g_goT | apply g_goF); · simp only [go_sem, Nat.reduceEqDiff, Nat.reduceAdd, Nat.reduceLeDiff]; (first | done | rfl))
    | ((first | apply g_T | apply g_F | apply g_gT | apply g_gF); · intro q1_; (first | intro q2_ | have q2_ := q1_); simp only [go_sem, Nat.reduceEqDiff, Nat.reduceAdd, Nat.reduceLeDiff, q1_, q2_]; (first | done | rfl))
    | (apply w_condX; · simp only [go_sem, Nat.reduceEqDiff, Nat.reduceAdd, Nat.reduceLeDiff]; (first | done | rfl)); (first | refine wcd_T ?_ | refine wcd_F ?_)
    | refine w_skip ?_ | refine w_exit ?_ | refine w_ret ?_
    | fail
    )
  exact ⟨.inr rfl, by simp only [go_sem, Nat.reduceEqDiff, Nat.reduceAdd, Nat.reduceLeDiff, retOf, resOf]⟩
theorem a139 (H : Has la0 env) (c : Int) : AV env 139 [.sc (.int .u8 c)] = some (.sc (.bool (decide (c < 32) || decide (c > 126)))) := by
  refine AV_wp (H (139, d139) (by simp [la0])) rfl ?_
  (repeat' first
    | refine w_seq ?_ | refine w_rg ?_ | refine wo_nil ?_ | refine g_skU ?_ | refine g_skT ?_ | refine g_skF ?_
    | ((first | apply s_plain | apply s_void | apply s_guard | apply g_goT | apply g_goF); · simp only [go_sem, Nat.reduceEqDiff, Nat.reduceAdd, Nat.reduceLeDiff]; (first | done | rfl))
    | ((first | apply g_T | apply g_F | apply g_gT | apply g_gF); · intro q1_; (first | intro q2_ | have q2_ := q1_); simp only [go_sem, Nat.reduceEqDiff, Nat.reduceAdd, Nat.reduceLeDiff, q1_, q2_]; (first | done | rfl))
    | (apply w_condX; · simp only [go_sem, Nat.reduceEqDiff, Nat.reduceAdd, Nat.reduceLeDiff]; (first | done | rfl)); (first | refine wcd_T ?_ | refine wcd_F ?_)
    | refine w_skip ?_ | refine w_exit ?_ | refine w_ret ?_
    | fail
    )
  exact ⟨.inr rfl, by simp only [go_sem, Nat.reduceEqDiff, Nat.reduceAdd, Nat.reduceLeDiff, retOf, resOf]⟩
def found (p : Nat → Bool) (n : Nat) : Int := match (List.range n).find? p with | some i => i | none => -1
theorem found_hit {p : Nat → Bool} {n i : Nat} (hi : i < n) (h : ∀ j, j < i → p j = false) (hp : p i = true) : found p n = i := by
  unfold found
  have : (List.range n).find? p = some i := by
    rw [List.find?_range_eq_some]
    exact ⟨hp, by simpa using hi, fun j hj => by simpa using h j hj⟩
  rw [this]
theorem found_none {p : Nat → Bool} {n : Nat} (h : ∀ j, j < n → p j = false) : found p n = -1 := by
  unfold found
  have : (List.range n).find? p = none := by
    rw [List.find?_range_eq_none]
    exact fun j hj => by simpa using h j hj
  rw [this]
theorem a85g {k0 : Nat} (hk0 : env k0 = some d85) {xs : List PV} {k : Nat} {a b : List PV} {p : Nat → Bool} (hn : xs.length ≤ 9223372036854775807) (h1 : ∀ (i : Nat) e, xs[i]? = some e → cellsOf e = [e])
    (hz : ∀ (i : Nat) e, xs[i]? = some e → ∀ σ, (a ++ [e] ++ b).mapM (fz σ 12) = some (a ++ [e] ++ b)) (hp : ∀ (i : Nat) e, xs[i]? = some e → AV env k (a ++ [e] ++ b) = some (.sc (.bool (p i)))) :
    AV env k0 [.sl xs, .fn k a b] = some (.sc (.int .i64 (found p xs.length))) := by
  refine AV_wp hk0 rfl ?_
  (repeat' first
    | refine w_seq ?_ | refine w_rg ?_ | refine wo_nil ?_ | refine g_skU ?_ | refine g_skT ?_ | refine g_skF ?_
    | ((first | apply s_plain | apply s_void | apply s_guard | apply g_goT | apply g_goF); · simp only [go_sem, Nat.reduceEqDiff, Nat.reduceAdd, Nat.reduceLeDiff]; (first | done | rfl))
    | ((first | apply g_T | apply g_F | apply g_gT | apply g_gF); · intro q1_; (first | intro q2_ | have q2_ := q1_); simp only [go_sem, Nat.reduceEqDiff, Nat.reduceAdd, Nat.reduceLeDiff, q1_, q2_]; (first | done | rfl))
    | fail
    )
  refine w_block (w_range xs.length hn (fun i fr σ => fr 0 = .sl xs ∧ fr 1 = .fn k a b ∧ ∀ j, j < i → p j = false) (by decide) ?_ ?_ ?_ _ _ ?_ ?_ ?_)
  · rintro i fr σ v ⟨h0, h1, h2⟩
    refine ⟨⟨?_, ?_, h2⟩, ⟨?_, ?_, h2⟩, ⟨?_, ?_, h2⟩⟩ <;> simp only [go_sem, Nat.reduceEqDiff, Nat.reduceAdd, Nat.reduceLeDiff, h0, h1]
  · rintro i fr σ hi ⟨h0, h2, h3⟩ hti htn
    have hx := List.getElem?_eq_getElem hi
    have e1 : (0 : Int) ≤ (i : Int) ∧ (i : Int) < (xs.length : Int) := by omega
    refine w_block ?_
    have hz' := hz i _ hx
    have hp' := hp i _ hx
    simp only [List.append_assoc, List.cons_append, List.nil_append] at hz' hp'
    (repeat' first
    | refine w_seq ?_ | refine w_rg ?_ | refine wo_nil ?_ | refine g_skU ?_ | refine g_skT ?_ | refine g_skF ?_
    | ((first | apply s_plain | apply s_void | apply s_guard | apply g_goT | apply g_goF); · simp only [go_sem, Nat.reduceEqDiff, Nat.reduceAdd, Nat.reduceLeDiff, h0, h2, hti, e1, Int.toNat_natCast, hx, h1 i _ hx, List.append_assoc, hz', hp']; (first | done | rfl))
    | ((first | apply g_T | apply g_F | apply g_gT | apply g_gF); · intro q1_; (first | intro q2_ | have q2_ := q1_); simp only [go_sem, Nat.reduceEqDiff, Nat.reduceAdd, Nat.reduceLeDiff, h0, h2, hti, e1, Int.toNat_natCast, hx, h1 i _ hx, List.append_assoc, hz', hp', q1_, q2_]; (first | done | rfl))
    | fail
    )
    cases hpi : p i with
    | true =>
      (repeat' first
    | refine w_seq ?_ | refine w_rg ?_ | refine wo_nil ?_ | refine g_skU ?_ | refine g_skT ?_ | refine g_skF ?_
    | ((first | apply s_plain | apply s_void | apply s_guard | apply g_goT | apply g_goF); · simp only [go_sem, Nat.reduceEqDiff, Nat.reduceAdd, Nat.reduceLeDiff]; (first | done | rfl))
    | ((first | apply g_T | apply g_F | apply g_gT | apply g_gF); · intro q1_; (first | intro q2_ | have q2_ := q1_); simp only [go_sem, Nat.reduceEqDiff, Nat.reduceAdd, Nat.reduceLeDiff, q1_, q2_]; (first | done | rfl))
    | (apply w_condX; · simp only [go_sem, Nat.reduceEqDiff, Nat.reduceAdd, Nat.reduceLeDiff]; (first | done | rfl)); (first | refine wcd_T ?_ | refine wcd_F ?_)
    | refine w_skip ?_ | refine w_exit ?_ | refine w_ret ?_
    | fail
    )
      exact ⟨.inr rfl, by simp only [go_sem, Nat.reduceEqDiff, Nat.reduceAdd, Nat.reduceLeDiff, retOf, resOf, found_hit hi h3 hpi]⟩
    | false =>
      (repeat' first
    | refine w_seq ?_ | refine w_rg ?_ | refine wo_nil ?_ | refine g_skU ?_ | refine g_skT ?_ | refine g_skF ?_
    | ((first | apply s_plain | apply s_void | apply s_guard | apply g_goT | apply g_goF); · simp only [go_sem, Nat.reduceEqDiff, Nat.reduceAdd, Nat.reduceLeDiff]; (first | done | rfl))
    | ((first | apply g_T | apply g_F | apply g_gT | apply g_gF); · intro q1_; (first | intro q2_ | have q2_ := q1_); simp only [go_sem, Nat.reduceEqDiff, Nat.reduceAdd, Nat.reduceLeDiff, q1_, q2_]; (first | done | rfl))
    | (apply w_condX; · simp only [go_sem, Nat.reduceEqDiff, Nat.reduceAdd, Nat.reduceLeDiff]; (first | done | rfl)); (first | refine wcd_T ?_ | refine wcd_F ?_)
    | refine w_skip ?_ | refine w_exit ?_ | refine w_ret ?_
    | fail
    )
      refine ⟨⟨?_, ?_, fun j hj => ?_⟩, ?_, ?_⟩
      · simp only [go_sem, Nat.reduceEqDiff, Nat.reduceAdd, Nat.reduceLeDiff, h0]
      · simp only [go_sem, Nat.reduceEqDiff, Nat.reduceAdd, Nat.reduceLeDiff, h2]
      · by_cases hji : j = i
        · rw [hji]; exact hpi
        · exact h3 j (by omega)
      · simp only [go_sem, Nat.reduceEqDiff, Nat.reduceAdd, Nat.reduceLeDiff, hti]
      · simp only [go_sem, Nat.reduceEqDiff, Nat.reduceAdd, Nat.reduceLeDiff, htn]
  · rintro fr σ ⟨h0, h2, h3⟩
    simp only [if_true]
    (repeat' first
    | refine w_seq ?_ | refine w_rg ?_ | refine wo_nil ?_ | refine g_skU ?_ | refine g_skT ?_ | refine g_skF ?_
    | ((first | apply s_plain | apply s_void | apply s_guard | apply g_goT | apply g_goF); · simp only [go_sem, Nat.reduceEqDiff, Nat.reduceAdd, Nat.reduceLeDiff]; (first | done | rfl))
    | ((first | apply g_T | apply g_F | apply g_gT | apply g_gF); · intro q1_; (first | intro q2_ | have q2_ := q1_); simp only [go_sem, Nat.reduceEqDiff, Nat.reduceAdd, Nat.reduceLeDiff, q1_, q2_]; (first | done | rfl))
    | (apply w_condX; · simp only [go_sem, Nat.reduceEqDiff, Nat.reduceAdd, Nat.reduceLeDiff]; (first | done | rfl)); (first | refine wcd_T ?_ | refine wcd_F ?_)
    | refine w_skip ?_ | refine w_exit ?_ | refine w_ret ?_
    | fail
    )
    exact ⟨.inr rfl, by simp only [go_sem, Nat.reduceEqDiff, Nat.reduceAdd, Nat.reduceLeDiff, retOf, resOf, found_none h3]⟩
  · refine ⟨?_, ?_, fun j hj => by omega⟩ <;> simp only [go_sem, Nat.reduceEqDiff, Nat.reduceAdd, Nat.reduceLeDiff]
  · simp only [go_sem, Nat.reduceEqDiff, Nat.reduceAdd, Nat.reduceLeDiff]
  · simp only [go_sem, Nat.reduceEqDiff, Nat.reduceAdd, Nat.reduceLeDiff]
theorem a67 (H : Has lax env) {xs : List PV} {k : Nat} {a b : List PV} {n : Int} (ha : ∀ σ, a.mapM (fz σ 11) = some a) (hb : ∀ σ, b.mapM (fz σ 11) = some b) (h : AV env 85 [.sl xs, .fn k a b] = some (.sc (.int .i64 n))) :
    AV env 67 [.sl xs, .fn k a b] = some (.sc (.bool (decide (n ≥ 0)))) := by
  refine AV_wp (H (67, d67) (by simp [lax])) rfl ?_
  (repeat' first
    | refine w_seq ?_ | refine w_rg ?_ | refine wo_nil ?_ | refine g_skU ?_ | refine g_skT ?_ | refine g_skF ?_
    | ((first | apply s_plain | apply s_void | apply s_guard | apply g_goT | apply g_goF); · simp only [go_sem, Nat.reduceEqDiff, Nat.reduceAdd, Nat.reduceLeDiff, h, ha, hb]; (first | done | rfl))
    | ((first | apply g_T | apply g_F | apply g_gT | apply g_gF); · intro q1_; (first | intro q2_ | have q2_ := q1_); simp only [go_sem, Nat.reduceEqDiff, Nat.reduceAdd, Nat.reduceLeDiff, h, ha, hb, q1_, q2_]; (first | done | rfl))
    | (apply w_condX; · simp only [go_sem, Nat.reduceEqDiff, Nat.reduceAdd, Nat.reduceLeDiff, h, ha, hb]; (first | done | rfl)); (first | refine wcd_T ?_ | refine wcd_F ?_)
    | refine w_skip ?_ | refine w_exit ?_ | refine w_ret ?_
    | fail
    )
  exact ⟨.inr rfl, by simp only [go_sem, Nat.reduceEqDiff, Nat.reduceAdd, Nat.reduceLeDiff, retOf, resOf]⟩
def byteAt (s : ByteArray) (i : Nat) : Int := match s.data.toList[i]? with | some u => (u.toNat : Int) | none => 0
theorem bytes_get {s : ByteArray} {i : Nat} {e : PV} (h : (bytesPV s)[i]? = some e) : e = .sc (.int .u8 (byteAt s i)) := by
  unfold bytesPV at h
  rw [List.getElem?_map] at h
  obtain ⟨u, hu, rfl⟩ := Option.map_eq_some_iff.1 h
  unfold byteAt
  rw [hu]
theorem bytes_len (s : ByteArray) : (bytesPV s).length = s.size := by simp [bytesPV]
theorem a85b (H : Has lax env) {s : ByteArray} {k : Nat} {q : Int → Bool} (hn : s.size ≤ 9223372036854775807) (hp : ∀ c, AV env k [.sc (.int .u8 c)] = some (.sc (.bool (q c)))) :
    AV env 85 [.sl (bytesPV s), .fn k [] []] = some (.sc (.int .i64 (found (fun i => q (byteAt s i)) s.size))) := by
  have := a85g (H (85, d85) (by simp [lax])) (xs := bytesPV s) (k := k) (a := []) (b := []) (p := fun i => q (byteAt s i)) (by rw [bytes_len]; exact hn) (fun i e h => by rw [bytes_get h]; rfl) (fun i e h σ => by
    rw [bytes_get h]; rfl) (fun i e h => by rw [bytes_get h]; exact hp _)
  rwa [bytes_len] at this
theorem a67b (H : Has lax env) {s : ByteArray} {k : Nat} {q : Int → Bool} (hn : s.size ≤ 9223372036854775807) (hp : ∀ c, AV env k [.sc (.int .u8 c)] = some (.sc (.bool (q c)))) :
    AV env 67 [.sl (bytesPV s), .fn k [] []] = some (.sc (.bool (decide (found (fun i => q (byteAt s i)) s.size ≥ 0)))) :=
  a67 H (fun _ => rfl) (fun _ => rfl) (a85b H hn hp)
def oddW (c : Int) : Bool := (decide (c < 97) || decide (c > 122)) && (decide (c < 48) || decide (c > 57)) && (c != 95)
def hasB (q : Int → Bool) (s : ByteArray) : Bool := decide (found (fun i => q (byteAt s i)) s.size ≥ 0)
def wordB (s : ByteArray) : Bool := !(s.toList == (⟨#[]⟩ : ByteArray).toList) && decide ((s.size : Int) ≤ 64) && !hasB oddW s
theorem a49 (H : Has law env) {s : ByteArray} (hn : s.size ≤ 9223372036854775807) : AV env 49 [.sc (.string s)] = some (.sc (.bool (wordB s))) := by
  have h1 := a67b (law_lax H) (k := 66) hn (a66 H)
  refine AV_wp (H (49, d49) (by simp [law])) rfl ?_
  (repeat' first
    | refine w_seq ?_ | refine w_rg ?_ | refine wo_nil ?_ | refine g_skU ?_ | refine g_skT ?_ | refine g_skF ?_
    | ((first | apply s_plain | apply s_void | apply s_guard | apply g_goT | apply g_goF); · simp only [go_sem, Nat.reduceEqDiff, Nat.reduceAdd, Nat.reduceLeDiff, h1]; (first | done | rfl))
    | ((first | apply g_T | apply g_F | apply g_gT | apply g_gF); · intro q1_; (first | intro q2_ | have q2_ := q1_); simp only [go_sem, Nat.reduceEqDiff, Nat.reduceAdd, Nat.reduceLeDiff, h1, q1_, q2_]; (first | done | rfl))
    | (apply w_condX; · simp only [go_sem, Nat.reduceEqDiff, Nat.reduceAdd, Nat.reduceLeDiff, h1]; (first | done | rfl)); (first | refine wcd_T ?_ | refine wcd_F ?_)
    | refine w_skip ?_ | refine w_exit ?_ | refine w_ret ?_
    | fail
    )
  exact ⟨.inr rfl, by simp only [go_sem, Nat.reduceEqDiff, Nat.reduceAdd, Nat.reduceLeDiff, retOf, resOf]; rfl⟩
end

section
variable {env : Nat → Option Def} {fr : Fr} {σ σ' σ'' : St} {K : Fr → St → Prop} {Q : X → Fr → St → Prop} {p : PV} {bs : List UInt8}
/-! ### rows that nobody writes -/
def SubS (σ σ' : St) : Prop := ∀ o g x, o < 2000000 → σ.m o g = some x → ∃ x', σ'.m o g = some x' ∧ x'.es = x.es ∧ x'.xs = x.xs
theorem SubS.refl (σ : St) : SubS σ σ := fun _ _ x _ h => ⟨x, h, rfl, rfl⟩
theorem SubS.trans (h : SubS σ σ') (h' : SubS σ' σ'') : SubS σ σ'' := fun o g x ho hx =>
  let ⟨y, h1, h2, h3⟩ := h o g x ho hx
  let ⟨z, h4, h5, h6⟩ := h' o g y ho h1
  ⟨z, h4, h5.trans h2, h6.trans h3⟩
theorem SubS.box (h : SubS σ σ') {o g : Nat} (ho : 2000000 ≤ o) (y : Option Obj) : SubS σ (σ'.put o g y) := fun o' g' x ho' hx => by
  obtain ⟨z, h1, h2⟩ := h o' g' x ho' hx
  refine ⟨z, ?_, h2⟩
  simp only [put_m]
  rw [if_neg (by omega)]
  exact h1
theorem SubS.new (h : SubS σ σ') (hF : Fresh σ') (s : Nat) (y : Obj) : SubS σ (σ'.new s y) := fun o' g' x ho' hx => by
  obtain ⟨z, h1, h2⟩ := h o' g' x ho' hx
  refine ⟨z, ?_, h2⟩
  simp only [new_m]
  rw [if_neg]
  · exact h1
  · rintro ⟨rfl, rfl⟩
    rw [hF.none] at h1; cases h1
theorem SubS.same (h : SubS σ σ') {o g : Nat} {x y : Obj} (hx : σ'.m o g = some x) (h1 : y.es = x.es) (h2 : y.xs = x.xs) : SubS σ (σ'.put o g (some y)) := fun o' g' z ho' hz => by
  obtain ⟨u, q1, q2, q3⟩ := h o' g' z ho' hz
  simp only [put_m]
  by_cases hq : o' = o ∧ g' = g
  · obtain ⟨rfl, rfl⟩ := hq
    rw [hx] at q1
    simp only [Option.some.injEq] at q1
    subst q1
    exact ⟨y, by simp, h1.trans q2, h2.trans q3⟩
  · exact ⟨u, by rw [if_neg hq]; exact q1, q2, q3⟩
theorem Fresh.put (h : Fresh σ) {o g : Nat} {x : Obj} (hx : σ.m o g = some x) (y : Option Obj) : Fresh (σ.put o g y) := by
  intro o' g' hs
  simp only [put_m, put_c] at hs ⊢
  split at hs
  · rename_i hq
    obtain ⟨rfl, rfl⟩ := hq
    exact h o' g' (by rw [hx]; rfl)
  · exact h o' g' hs
theorem Fresh.nil : Fresh St.nil := fun _ _ h => by cases h
/-! ### a strings.Builder -/
def bytesOf (bs : List UInt8) : List PV := bs.map fun b => .sc (.int .u8 b.toNat)
def Buf (σ : St) (p : PV) (bs : List UInt8) : Prop := (p = .sc (.slice none 0 0) ∧ bs = []) ∨ ∃ g wr, p = .ob bufAt g 1 0 bs.length ∧ σ.m bufAt g = some ⟨1, bytesOf bs, true, wr⟩ ∧ bs ≠ []
def Bld (σ : St) (g : Nat) (bs : List UInt8) : Prop := ∃ a p, σ.m bldAt g = some ⟨2, [.agg [a, p]], true, true⟩ ∧ (a = .sc (.pointer none) ∨ a = .bx bldAt g 2 0 0) ∧ Buf σ p bs
structure Stays (σ σ' : St) : Prop where
  m : ∀ o g x, o ≠ bldAt → o ≠ bufAt → σ.m o g = some x → σ'.m o g = some x
  c : ∀ o, σ.c o ≤ σ'.c o
  s : SubS σ σ'
  f : Fresh σ'
theorem Stays.trans {σ1 σ2 σ3 : St} (h : Stays σ1 σ2) (h' : Stays σ2 σ3) : Stays σ1 σ3 :=
  ⟨fun o g x a b e => h'.m o g x a b (h.m o g x a b e), fun o => Nat.le_trans (h.c o) (h'.c o), h.s.trans h'.s, h'.f⟩
theorem Stays.refl (h : Fresh σ) : Stays σ σ := ⟨fun _ _ _ _ _ h => h, fun _ => Nat.le_refl _, SubS.refl σ, h⟩
theorem new_c_le (σ : St) (s : Nat) (y : Obj) (o : Nat) : σ.c o ≤ (σ.new s y).c o := by
  simp only [new_c]; split
  · rename_i h; subst h; omega
  · exact Nat.le_refl _
theorem Stays.new (h : Stays σ σ') (s : Nat) (y : Obj) : Stays σ (σ'.new s y) :=
  ⟨fun o g x a b e => (by
    have := h.m o g x a b e
    simp only [new_m]
    rw [if_neg]
    · exact this
    · rintro ⟨rfl, rfl⟩
      rw [h.f.none] at this
      cases this), fun o => Nat.le_trans (h.c o) (new_c_le _ _ _ _), h.s.new h.f _ _, h.f.new _ _⟩
theorem Stays.bld (h : Stays σ σ') {g : Nat} {x : Obj} (hm : σ'.m bldAt g = some x) (y : Obj) : Stays σ (σ'.put bldAt g (some y)) :=
  ⟨fun o g' x a b e => by simp only [put_m]; rw [if_neg (fun h => a h.1)]; exact h.m o g' x a b e, h.c, h.s.box (by unfold bldAt; omega) _, h.f.put hm _⟩
theorem bytesOf_len (bs : List UInt8) : (bytesOf bs).length = bs.length := by simp [bytesOf]
theorem Buf.bld (h : Buf σ p bs) (g : Nat) (y : Option Obj) : Buf (σ.put bldAt g y) p bs := by
  rcases h with h | ⟨g', wr, h1, h2, h3⟩
  · exact .inl h
  · exact .inr ⟨g', wr, h1, by simp only [put_m]; rw [if_neg (fun h => absurd h.1 (by decide))]; exact h2, h3⟩
theorem Buf.ok (h : Buf σ p bs) : cellsOf p = [p] ∧ okc p = true := by
  rcases h with ⟨rfl, _⟩ | ⟨g', wr, rfl, _, _⟩ <;> exact ⟨rfl, rfl⟩
theorem Bld.new {g : Nat} (h : Bld σ g bs) (hF : Fresh σ) (s : Nat) (y : Obj) : Bld (σ.new s y) g bs := by
  obtain ⟨a, p, hm, ha, hb⟩ := h
  have key : ∀ o g x, σ.m o g = some x → (σ.new s y).m o g = some x := fun o g x h => by
    simp only [new_m]
    rw [if_neg]
    · exact h
    · rintro ⟨rfl, rfl⟩
      rw [hF.none] at h; cases h
  refine ⟨a, p, key _ _ _ hm, ha, ?_⟩
  rcases hb with h | ⟨g', wr, h1, h2, h3⟩
  · exact .inl h
  · exact .inr ⟨g', wr, h1, key _ _ _ h2, h3⟩
theorem Bld.put {g o k : Nat} (h : Bld σ g bs) (h1 : o ≠ bldAt) (h2 : o ≠ bufAt) (y : Option Obj) : Bld (σ.put o k y) g bs := by
  obtain ⟨a, p, hm, ha, hb⟩ := h
  refine ⟨a, p, by simp only [put_m]; rw [if_neg (fun h => h1 h.1.symm)]; exact hm, ha, ?_⟩
  rcases hb with h | ⟨g', wr, q1, q2, q3⟩
  · exact .inl h
  · exact .inr ⟨g', wr, q1, by simp only [put_m]; rw [if_neg (fun h => h2 h.1.symm)]; exact q2, q3⟩
end

abbrev txt (l : List UInt8) : PV := .sc (.string ⟨l.toArray⟩)
theorem ba_data (a : Array UInt8) : (⟨a⟩ : ByteArray).data = a := rfl
theorem ba_size (l : List UInt8) : (⟨l.toArray⟩ : ByteArray).size = l.length := by simp [ByteArray.size]
theorem ba_toList (l : List UInt8) : (⟨l.toArray⟩ : ByteArray).toList = l := by rw [ByteArray.toList_eq]
theorem ba_eta (s : ByteArray) : (⟨s.data.toList.toArray⟩ : ByteArray) = s := by simp
theorem txt_eta (s : ByteArray) : txt s.data.toList = .sc (.string s) := by unfold txt; rw [ba_eta]
theorem ba_extract (l : List UInt8) (a b : Nat) : (⟨l.toArray⟩ : ByteArray).extract a b = ⟨((l.take b).drop a).toArray⟩ := by
  apply ByteArray.ext
  rw [ByteArray.data_extract]
  apply Array.ext'
  simp [List.drop_take]
theorem drop_at {r : List UInt8} {i : Nat} (h : i < r.length) : r.drop i = r[i] :: r.drop (i + 1) := List.drop_eq_getElem_cons h
def byteD (s : List UInt8) (i : Nat) : UInt8 := s[i]?.getD 0
theorem byteD_at {s : List UInt8} {i : Nat} (h : i < s.length) : byteD s i = s[i] := by unfold byteD; rw [List.getElem?_eq_getElem h]; rfl
theorem byteD_q {s : List UInt8} {i : Nat} (h : i < s.length) : s[i]? = some (byteD s i) := by rw [List.getElem?_eq_getElem h, byteD_at h]
theorem ba_append (a b : List UInt8) : (⟨a.toArray⟩ : ByteArray) ++ ⟨b.toArray⟩ = ⟨(a ++ b).toArray⟩ := by
  apply ByteArray.ext
  rw [ByteArray.data_append]
  simp
section
variable {env : Nat → Option Def} {fr : Fr} {σ σ' σ'' : St} {K : Fr → St → Prop} {Q : X → Fr → St → Prop} {p : PV} {bs : List UInt8}
end

end
section
def sumN (s : List UInt8) : Nat → Nat
  | 0 => 0
  | m + 1 => sumN s m + (byteD s m).toNat % 128 * 128 ^ m
theorem sumN_lt (s : List UInt8) : ∀ m, sumN s m < 128 ^ m
  | 0 => by simp [sumN]
  | m + 1 => by
    have h := sumN_lt s m
    have h2 : (byteD s m).toNat % 128 < 128 := Nat.mod_lt _ (by decide)
    have h3 : (byteD s m).toNat % 128 * 128 ^ m ≤ 127 * 128 ^ m := Nat.mul_le_mul_right _ (by omega)
    simp only [sumN, Nat.pow_succ]
    omega
theorem rd_go {s : List UInt8} {a b c : Int} : ∀ (d i : Nat), i + d ≤ s.length → i + d ≤ 9 → (∀ j, j < i + d → ¬ (byteD s j).toNat < 128) → rdN a b c (s.drop i) i (sumN s i) = rdN a b c (s.drop (i + d)) (i + d) (sumN s (i + d))
  | 0, i, _, _, _ => rfl
  | d + 1, i, h1, h2, h3 => by
    have hlt : i < s.length := by omega
    have e : s.drop i = byteD s i :: s.drop (i + 1) := by rw [byteD_at hlt]; exact drop_at hlt
    have ih := rd_go (s := s) (a := a) (b := b) (c := c) d (i + 1) (by omega) (by omega) (fun j hj => h3 j (by omega))
    rw [show i + 1 + d = i + (d + 1) by omega] at ih
    rw [← ih, e, rdN, if_neg (by omega), if_pos (by have := h3 i (by omega); omega)]
    rfl
theorem rdN_nil {a b c : Int} {i n : Nat} (h : i ≠ 9) : rdN a b c [] i n = (0, 0, a) := by
  unfold rdN
  simp [h]
theorem rdN_nine {a b c : Int} {l : List UInt8} {n : Nat} : rdN a b c l 9 n = (0, 0, b) := by
  unfold rdN
  simp
theorem head_none {s : List UInt8} (h : ∀ j, j < min s.length 9 → ¬ (byteD s j).toNat < 128) : headN s = if s.length < 9 then (0, 0, 3) else (0, 0, 2) := by
  have := rd_go (s := s) (a := 3) (b := 2) (c := 6) (min s.length 9) 0 (by omega) (by omega) (fun j hj => h j (by omega))
  simp only [Nat.zero_add, List.drop_zero, sumN] at this
  unfold headN
  rw [this]
  by_cases h9 : s.length < 9
  · rw [if_pos h9, Nat.min_eq_left (by omega), List.drop_length, rdN_nil (by omega)]
  · rw [if_neg h9, Nat.min_eq_right (by omega), rdN_nine]
theorem head_at {s : List UInt8} {k : Nat} (h1 : k < s.length) (h9 : k < 9) (hk : (byteD s k).toNat < 128) (h : ∀ j, j < k → ¬ (byteD s j).toNat < 128) :
    headN s = if (byteD s k).toNat = 0 ∧ k > 0 then (0, 0, 6) else (sumN s (k + 1), k + 1, 0) := by
  have := rd_go (s := s) (a := 3) (b := 2) (c := 6) k 0 (by omega) (by omega) (fun j hj => h j (by omega))
  simp only [Nat.zero_add, List.drop_zero, sumN] at this
  unfold headN
  have e : s.drop k = byteD s k :: s.drop (k + 1) := by rw [byteD_at h1]; exact drop_at h1
  rw [this, e, rdN, if_neg (by omega), if_neg (by omega)]
  rfl
theorem encN_len (n : Nat) : (encN n).length ≤ n + 1 := by
  induction n using Nat.strongRecOn with
  | _ n ih =>
    rw [encN]
    split
    · simp
    · have := ih (n / 128) (by omega)
      simp only [List.length_cons]
      omega
theorem or_add {n x k : Nat} (h : n < 2 ^ k) : n ||| x * 2 ^ k = n + x * 2 ^ k := by
  have := Nat.two_pow_add_eq_or_of_lt h x
  rw [Nat.or_comm, Nat.mul_comm x, ← this]
  omega

def useN (s : List UInt8) : Nat := (headN s).2.1
def numN (s : List UInt8) : Nat := (headN s).1
def dataN (s : List UInt8) : List UInt8 := (s.drop (useN s)).take (numN s)
def restN (s : List UInt8) : List UInt8 := s.drop (useN s + numN s + 4)
def goodN (s : List UInt8) : Bool := decide ((headN s).2.2 = 0) && decide (numN s ≤ 4096) && decide (useN s + numN s + 4 ≤ s.length)
def fitN (s : List UInt8) : Bool := decide ((s.drop (useN s + numN s)).take 4 = chkB (dataN s))
theorem scanF_nil (f : Nat) : scanF f [] = [] := by cases f <;> rfl
theorem scanF_eq (f : Nat) (s : List UInt8) : scanF (f + 1) s = if s = [] then [] else if goodN s && fitN s then dataN s :: scanF f (restN s) else [] := by
  rw [scanF]
  by_cases h0 : s = []
  · rw [if_pos h0, if_pos h0]
  · rw [if_neg h0, if_neg h0]
    by_cases h1 : (headN s).2.2 ≠ 0 ∨ (headN s).1 > 4096 ∨ (headN s).2.1 + (headN s).1 + 4 > s.length
    · have e : goodN s = false := by
        rw [Bool.eq_false_iff]
        intro h
        simp only [goodN, Bool.and_eq_true, decide_eq_true_eq] at h
        obtain ⟨⟨q1, q2⟩, q3⟩ := h
        have q2 : (headN s).1 ≤ 4096 := q2
        have q3 : (headN s).2.1 + (headN s).1 + 4 ≤ s.length := q3
        rcases h1 with h1 | h1 | h1
        · exact h1 q1
        · omega
        · omega
      rw [if_pos h1, e]
      rfl
    · have e : goodN s = true := by
        simp only [goodN, Bool.and_eq_true, decide_eq_true_eq]
        simp only [not_or, Decidable.not_not] at h1
        obtain ⟨q1, q2, q3⟩ := h1
        have q2 : ¬ (headN s).1 > 4096 := q2
        have q3 : ¬ (headN s).2.1 + (headN s).1 + 4 > s.length := q3
        refine ⟨⟨q1, ?_⟩, ?_⟩
        · show (headN s).1 ≤ 4096
          omega
        · show (headN s).2.1 + (headN s).1 + 4 ≤ s.length
          omega
      rw [if_neg h1, e, Bool.true_and]
      by_cases h2 : (s.drop (useN s + numN s)).take 4 = chkB (dataN s)
      · have e2 : fitN s = true := by simp only [fitN, decide_eq_true_eq]; exact h2
        rw [e2, if_neg (fun h => h h2), if_pos rfl]
        rfl
      · have e2 : fitN s = false := by simp only [fitN, decide_eq_false_iff_not]; exact h2
        rw [e2]
        exact if_pos h2
theorem scanF_more : ∀ (f g : Nat) (s : List UInt8), s.length ≤ f → s.length ≤ g → scanF f s = scanF g s
  | 0, g, s, h1, h2 => by
    have : s = [] := List.eq_nil_of_length_eq_zero (by omega)
    subst this
    rw [scanF_nil, scanF_nil]
  | f + 1, 0, s, h1, h2 => by
    have : s = [] := List.eq_nil_of_length_eq_zero (by omega)
    subst this
    rw [scanF_nil, scanF_nil]
  | f + 1, g + 1, s, h1, h2 => by
    rw [scanF_eq, scanF_eq]
    by_cases h0 : s = []
    · rw [if_pos h0, if_pos h0]
    · rw [if_neg h0, if_neg h0]
      have hp : 0 < s.length := List.length_pos_iff.2 h0
      have hl : (restN s).length ≤ s.length - 4 := by unfold restN; rw [List.length_drop]; omega
      rw [scanF_more f g (restN s) (by omega) (by omega)]
theorem scanS_nil : scanS [] = [] := rfl
theorem scanS_eq (s : List UInt8) : scanS s = if s = [] then [] else if goodN s && fitN s then dataN s :: scanS (restN s) else [] := by
  by_cases h0 : s = []
  · subst h0; rfl
  · have hp : 0 < s.length := List.length_pos_iff.2 h0
    unfold scanS
    obtain ⟨f, hf⟩ : ∃ f, s.length = f + 1 := ⟨s.length - 1, by omega⟩
    rw [hf, scanF_eq, if_neg h0, if_neg h0]
    have hl : (restN s).length ≤ f := by unfold restN; rw [List.length_drop]; omega
    rw [scanF_more f (restN s).length (restN s) hl (Nat.le_refl _)]
theorem good_ok {s : List UInt8} (h : goodN s = true) : headN s = (numN s, useN s, 0) ∧ numN s ≤ 4096 ∧ useN s + numN s + 4 ≤ s.length ∧ 0 < useN s ∧ useN s ≤ 9 := by
  simp only [goodN, Bool.and_eq_true, decide_eq_true_eq] at h
  have e : headN s = (numN s, useN s, 0) := by
    show headN s = ((headN s).1, (headN s).2.1, 0)
    rw [← h.1.1]
  obtain ⟨h1, h2, _, _⟩ := headN_ok e
  exact ⟨e, h.1.2, h.2, h1, h2⟩
theorem dataN_len {s : List UInt8} (h : goodN s = true) : (dataN s).length = numN s := by
  obtain ⟨_, h2, h3, _⟩ := good_ok h
  unfold dataN
  rw [List.length_take, List.length_drop]; omega
theorem recB_len {s : List UInt8} (h : goodN s = true) : (recB (dataN s)).length = useN s + numN s + 4 := by
  obtain ⟨h1, h2, h3, h4⟩ := good_ok h
  obtain ⟨_, _, h5, h6⟩ := headN_ok h1
  unfold recB
  rw [List.length_append, List.length_append, dataN_len h, h5, List.length_take, chkB_len]
  omega

def lja : List (Nat × Def) := [(268, .prim (cloneF 3 48)), (278, .prim (delF 3)), (281, .prim (insF 3 48))]
def ljb : List (Nat × Def) := [(153, .prim cmpF)]

theorem bl_irrefl : ∀ a : List UInt8, Op.bytesLess a a = false
  | [] => rfl
  | a :: r => by
    have := bl_irrefl r
    simp [Op.bytesLess, UInt8.lt_irrefl, this]
theorem bl_cons {a b : UInt8} {r s : List UInt8} : Op.bytesLess (a :: r) (b :: s) = true ↔ a.toNat < b.toNat ∨ (a.toNat = b.toNat ∧ Op.bytesLess r s = true) := by
  simp only [Op.bytesLess]
  by_cases h : a < b
  · rw [UInt8.lt_iff_toNat_lt] at h
    simp [UInt8.lt_iff_toNat_lt, h]
  · rw [UInt8.lt_iff_toNat_lt] at h
    by_cases h2 : a = b
    · subst h2; simp [UInt8.lt_irrefl]
    · have h3 : a.toNat ≠ b.toNat := fun e => h2 (UInt8.toNat_inj.1 e)
      simp [UInt8.lt_iff_toNat_lt, h, h2, h3]
theorem bl_trans : ∀ {a b c : List UInt8}, Op.bytesLess a b = true → Op.bytesLess b c = true → Op.bytesLess a c = true
  | [], [], _, h, _ => by cases h
  | [], _ :: _, [], _, h => by cases h
  | [], _ :: _, _ :: _, _, _ => rfl
  | _ :: _, [], _, h, _ => by cases h
  | _ :: _, _ :: _, [], _, h => by cases h
  | a :: r, b :: s, c :: t, h1, h2 => by
    rw [bl_cons] at h1 h2 ⊢
    rcases h1 with h1 | ⟨h1, h3⟩
    · rcases h2 with h2 | ⟨h2, h4⟩
      · exact .inl (by omega)
      · exact .inl (by omega)
    · rcases h2 with h2 | ⟨h2, h4⟩
      · exact .inl (by omega)
      · exact .inr ⟨by omega, bl_trans h3 h4⟩
theorem bl_tri : ∀ {a b : List UInt8}, a ≠ b → Op.bytesLess a b = true ∨ Op.bytesLess b a = true
  | [], [], h => absurd rfl h
  | [], _ :: _, _ => .inl rfl
  | _ :: _, [], _ => .inr rfl
  | a :: r, b :: s, h => by
    rw [bl_cons, bl_cons]
    by_cases h1 : a.toNat < b.toNat
    · exact .inl (.inl h1)
    · by_cases h2 : b.toNat < a.toNat
      · exact .inr (.inl h2)
      · have h3 : a.toNat = b.toNat := by omega
        have h4 : r ≠ s := fun e => h (by rw [e, UInt8.toNat_inj.1 h3])
        rcases bl_tri h4 with h5 | h5
        · exact .inl (.inr ⟨h3, h5⟩)
        · exact .inr (.inr ⟨h3.symm, h5⟩)
theorem bl_asymm {a b : List UInt8} (h : Op.bytesLess a b = true) : Op.bytesLess b a = false := by
  cases h2 : Op.bytesLess b a with
  | false => rfl
  | true => have := bl_trans h h2; rw [bl_irrefl] at this; cases this
structure Fl where
  n : List UInt8
  s : List UInt8
  t : List UInt8
deriving DecidableEq, Inhabited
abbrev Srt (l : List Fl) : Prop := l.Pairwise fun a b => Op.bytesLess a.n b.n = true
def getF (l : List Fl) (n : List UInt8) : Option Fl := l.find? fun f => f.n == n
def posF (l : List Fl) (n : List UInt8) : Nat := (l.takeWhile fun f => Op.bytesLess f.n n).length
def hasF (l : List Fl) (n : List UInt8) : Bool := (getF l n).isSome
def putF (l : List Fl) (f : Fl) : List Fl := l.take (posF l f.n) ++ f :: l.drop (if hasF l f.n then posF l f.n + 1 else posF l f.n)
def delF' (l : List Fl) (n : List UInt8) : List Fl := l.take (posF l n) ++ l.drop (posF l n + 1)
theorem getF_cons (a : Fl) (l : List Fl) (n : List UInt8) : getF (a :: l) n = if a.n = n then some a else getF l n := by
  unfold getF
  rw [List.find?_cons]
  by_cases h : a.n = n
  · rw [if_pos h, show (a.n == n) = true by simpa using h]
  · rw [if_neg h, show (a.n == n) = false by simpa using h]
theorem getF_none {l : List Fl} {n : List UInt8} : getF l n = none ↔ ∀ f ∈ l, f.n ≠ n := by
  unfold getF
  rw [List.find?_eq_none]
  simp
theorem getF_some {l : List Fl} (hs : Srt l) {n : List UInt8} {f : Fl} : getF l n = some f ↔ f ∈ l ∧ f.n = n := by
  induction l with
  | nil => simp [getF]
  | cons a r ih =>
    rw [getF_cons]
    have hr := List.pairwise_cons.1 hs
    by_cases h : a.n = n
    · rw [if_pos h]
      constructor
      · intro e
        simp only [Option.some.injEq] at e
        subst e
        exact ⟨by simp, h⟩
      · rintro ⟨h1, h2⟩
        rcases List.mem_cons.1 h1 with h1 | h1
        · rw [h1]
        · have := hr.1 f h1
          rw [h, h2, bl_irrefl] at this
          cases this
    · rw [if_neg h, ih hr.2]
      constructor
      · rintro ⟨h1, h2⟩
        exact ⟨List.mem_cons_of_mem _ h1, h2⟩
      · rintro ⟨h1, h2⟩
        rcases List.mem_cons.1 h1 with h1 | h1
        · subst h1; exact absurd h2 h
        · exact ⟨h1, h2⟩
theorem posF_cons (a : Fl) (l : List Fl) (n : List UInt8) : posF (a :: l) n = if Op.bytesLess a.n n = true then posF l n + 1 else 0 := by
  unfold posF
  rw [List.takeWhile_cons]
  by_cases h : Op.bytesLess a.n n = true
  · simp [h]
  · simp [h]
theorem posF_le (l : List Fl) (n : List UInt8) : posF l n ≤ l.length := by
  induction l with
  | nil => simp [posF]
  | cons a r ih =>
    rw [posF_cons]
    split
    · simp; omega
    · simp
theorem pos_spec {l : List Fl} (hs : Srt l) (n : List UInt8) : (∀ f ∈ l.take (posF l n), Op.bytesLess f.n n = true) ∧ (∀ f ∈ l.drop (posF l n), Op.bytesLess f.n n = false) := by
  induction l with
  | nil => simp
  | cons a r ih =>
    have hr := List.pairwise_cons.1 hs
    rw [posF_cons]
    by_cases h : Op.bytesLess a.n n = true
    · rw [if_pos h, List.take_succ_cons, List.drop_succ_cons]
      refine ⟨fun f hf => ?_, (ih hr.2).2⟩
      rcases List.mem_cons.1 hf with hf | hf
      · rw [hf]; exact h
      · exact (ih hr.2).1 f hf
    · rw [if_neg h, List.take_zero, List.drop_zero]
      refine ⟨fun f hf => (by cases hf), fun f hf => ?_⟩
      rcases List.mem_cons.1 hf with hf | hf
      · rw [hf]; simpa using h
      · cases h2 : Op.bytesLess f.n n with
        | false => rfl
        | true => exact absurd (bl_trans (hr.1 f hf) h2) h
theorem pos_has {l : List Fl} (hs : Srt l) (n : List UInt8) : hasF l n = (match l[posF l n]? with | some f => f.n == n | none => false) := by
  induction l with
  | nil => rfl
  | cons a r ih =>
    have hr := List.pairwise_cons.1 hs
    unfold hasF at ih ⊢
    rw [posF_cons, getF_cons]
    by_cases h : Op.bytesLess a.n n = true
    · rw [if_pos h, List.getElem?_cons_succ]
      have hne : a.n ≠ n := fun e => by rw [e, bl_irrefl] at h; cases h
      rw [if_neg hne]
      exact ih hr.2
    · rw [if_neg h, List.getElem?_cons_zero]
      by_cases he : a.n = n
      · rw [if_pos he]; simp [he]
      · rw [if_neg he]
        have e1 : getF r n = none := getF_none.2 fun f hf e => by
          have h1 := hr.1 f hf
          rcases bl_tri he with h2 | h2
          · exact h h2
          · rw [e] at h1
            exact h (by rw [bl_asymm h2] at h1; cases h1)
        rw [e1]
        simp [he]
theorem pos_at {l : List Fl} (hs : Srt l) {n : List UInt8} (h : hasF l n = true) : ∃ f, l[posF l n]? = some f ∧ f.n = n ∧ getF l n = some f := by
  rw [pos_has hs] at h
  split at h
  · rename_i f hf
    have hn : f.n = n := by simpa using h
    exact ⟨f, hf, hn, (getF_some hs).2 ⟨List.mem_of_getElem? hf, hn⟩⟩
  · cases h
theorem srt_sub {l a b : List Fl} (hs : Srt l) (i j : Nat) (hij : i ≤ j) : Srt (l.take i ++ l.drop j) := by
  have : (l.take i ++ l.drop j).Sublist l := by
    conv => rhs; rw [← List.take_append_drop i l]
    refine List.Sublist.append (List.Sublist.refl _) ?_
    rw [show j = i + (j - i) by omega, ← List.drop_drop]
    exact List.drop_sublist _ _
  exact hs.sublist this
theorem delF_srt {l : List Fl} (hs : Srt l) (n : List UInt8) : Srt (delF' l n) := srt_sub (a := []) (b := []) hs _ _ (by omega)

end
section
attribute [local go_sem ↓] e_mv e_pick e_bin e_eqs e_beq e_un e_cvi e_str e_s2b e_b2s e_box e_build e_bsl e_ld e_st e_nck e_mkf e_slcS e_slcL e_fa e_fld e_ia e_iaa e_ix e_ixa e_ext e_lenS e_lenL e_mnmx e_app e_appb e_bbx e_msl e_clr e_call e_callv e_icall e_slcA e_mkm e_mput e_mget e_mlen e_mdel pa_t pa_c pa_f slcSP_str hiOf_some hiOf_none loOf_some loOf_none set_eq set_ne
attribute [local go_sem] pv pv1 simple frOf_0 frOf_1 frOf_2 frOf_3 frOf_4 frOf_5 ne_eq not_false_eq_true if_true Bool.false_eq_true if_false pbin punary Option.map_some Option.bind_some pick_and pick_or opt_true Bool.true_and Bool.and_self Bool.and_true Bool.true_or Bool.false_or Bool.not_true Bool.not_false callE pcall_eq List.map_cons List.map_nil List.append_nil List.nil_append List.cons_append mapM_cons' mapM_nil' dep_eq fz_sc fz_sl fz_em fz_fn fz_fp fz_agg fz_tu fz_bx fz_ob Nat.lt_irrefl Nat.zero_lt_one Nat.lt_add_one flat clL cl Bool.or_true okc_sc okc_em okc_sl okc_ob okc_bx okc_fp okc_fn okc_agg okc_ifc cells_agg cells_sc cells_sl cells_em cells_ob cells_fn cells_bx cells_fp List.length_cons List.length_nil Nat.zero_add and_self true_and and_true new_m new_c put_m put_c nil_m nil_c nil_mm new_mm put_mm newM_m newM_c newM_mm putM_m putM_c putM_mm mkeyV_1 mkeyV_2 mapAt_eq deref List.getElem?_cons_zero List.getElem?_cons_succ List.drop_zero List.drop_succ_cons List.take_succ_cons List.take_zero Nat.le_refl false_and and_false decide_true decide_false lenP_em lenP_nil lenP_sl lenP_ob Int.ofNat_zero
def dIdxF (es : Nat) (sz : Option Nat) : Def := (.code 2 [.tmp 4] (.seq (.rg false [⟨.some 4, .none, .mv (.c (.int .i64 0))⟩]) (.seq (.seq (.rg false [⟨.some 6, .none, .mv (.t 0)⟩, ⟨.some 7, .none, .lenL (.t 6)⟩, ⟨.some 8, .none, .mv (.c (.int .i64 0))⟩]) (.block 0 (.loop (.seq (.rg false [⟨.some 9, .none, .bin .lss (.t 8) (.t 7)⟩]) (.seq (.cond (.t 9) .skip (.exit 0)) (.seq (.block 1 (.seq (.rg false [⟨.some 10, .none, .mv (.t 8)⟩, ⟨.some 5, .none, .mv (.t 10)⟩]) (.seq (.rg false [⟨.some 11, .none, .mv (.t 1)⟩, ⟨.some 12, .none, .mv (.t 0)⟩, ⟨.some 13, .none, .mv (.t 5)⟩, ⟨.some 14, .none, .ia es (.t 12) (.t 13)⟩, ⟨.some 15, .none, .ld sz (.t 14)⟩, ⟨.some 16, .none, .callv (.t 11) .pure [.t 15]⟩]) (.cond (.t 16) (.seq (.rg false [⟨.some 17, .none, .mv (.t 5)⟩, ⟨.some 4, .none, .mv (.t 17)⟩]) .ret) .skip)))) (.rg false [⟨.some 18, .none, .bin .add (.t 8) (.c (.int .i64 1))⟩, ⟨.some 8, .none, .mv (.t 18)⟩]))))))) (.seq (.rg false [⟨.some 4, .none, .mv (.c (.int .i64 (-1)))⟩]) .ret))))
def dConF (k : Nat) : Def := (.code 2 [.tmp 4] (.seq (.rg false [⟨.some 4, .none, .mv (.c (.bool false))⟩]) (.seq (.rg false [⟨.some 5, .none, .mv (.t 0)⟩, ⟨.some 6, .none, .mv (.t 1)⟩, ⟨.some 7, .none, .call k .pure [.t 5, .t 6]⟩, ⟨.some 8, .none, .bin .geq (.t 7) (.c (.int .i64 0))⟩, ⟨.some 4, .none, .mv (.t 8)⟩]) .ret)))
section
variable {env : Nat → Option Def} {fr : Fr} {σ σ' σ'' : St} {K : Fr → St → Prop} {Q : X → Fr → St → Prop} {p : PV} {bs : List UInt8}
def ldE (sz : Option Nat) (e : PV) : Option PV := match sz with
  | none => (cellsOf e)[0]?
  | some n => if 0 + n ≤ (cellsOf e).length then some (.agg (((cellsOf e).drop 0).take n)) else none
def Elems (es : Nat) (sz : Option Nat) (xs : List PV) : Prop := ∀ (i : Nat) e, xs[i]? = some e → (cellsOf e).length = es ∧ ldE sz e = some e
theorem e_ldE (E : Ev) (s : Nat) (fr : Fr) (σ : St) (sz : Option Nat) (a : PA) {xs : List PV} {i : Nat} {e : PV} (ha : pa fr a = .fp xs i 0) (he : xs[i]? = some e) (hl : ldE sz e = some e) : evO E s fr σ (.ld sz a) = some (e, σ) := by
  simp only [evO, ha, deref, he, Option.map_some, Option.bind_some]
  unfold ldE at hl
  cases sz with
  | none => simp only at hl ⊢; rw [hl]; rfl
  | some n =>
    simp only at hl ⊢
    split at hl
    · rename_i hn
      rw [if_pos hn]
      simp only [Option.some.injEq] at hl
      rw [hl]
    · cases hl
theorem idxF_g {k0 es : Nat} {sz : Option Nat} (hk0 : env k0 = some (dIdxF es sz)) {xs : List PV} {k : Nat} {a b : List PV} {q : Nat → Bool} (hn : xs.length ≤ 9223372036854775807) (hE : Elems es sz xs)
    (hz : ∀ (i : Nat) e, xs[i]? = some e → ∀ σ, (a ++ [e] ++ b).mapM (fz σ 12) = some (a ++ [e] ++ b)) (hp : ∀ (i : Nat) e, xs[i]? = some e → AV env k (a ++ [e] ++ b) = some (.sc (.bool (q i)))) :
    AV env k0 [.sl xs, .fn k a b] = some (.sc (.int .i64 (found q xs.length))) := by
  refine AV_wp hk0 rfl ?_
  (repeat' first
    | refine w_seq ?_ | refine w_rg ?_ | refine wo_nil ?_ | refine g_skU ?_ | refine g_skT ?_ | refine g_skF ?_
    | ((first | apply s_plain | apply s_void | apply s_guard | apply g_goT | apply g_goF); · simp only [go_sem, Nat.reduceEqDiff, Nat.reduceAdd, Nat.reduceLeDiff]; (first | done | rfl))
    | ((first | apply g_T | apply g_F | apply g_gT | apply g_gF); · intro q1_; (first | intro q2_ | have q2_ := q1_); simp only [go_sem, Nat.reduceEqDiff, Nat.reduceAdd, Nat.reduceLeDiff, q1_, q2_]; (first | done | rfl))
    | fail
    )
  refine w_block (w_rangeF xs.length hn (fun i fr σ => ∀ j, j < i → q j = false) ⟨by decide, rfl, rfl⟩ (fun _ _ _ _ h => ⟨h, h, h⟩) (fun j hj => by omega) (by simp only [go_sem, Nat.reduceEqDiff, Nat.reduceAdd, Nat.reduceLeDiff]; first | done | rfl) (by simp only [go_sem, Nat.reduceEqDiff, Nat.reduceAdd, Nat.reduceLeDiff]; first | done | rfl) ?_ ?_)
  · rintro i fr1 σ1 hi h3 hti hfr
    have f0_0 := hfr 0 rfl; have f0_1 := hfr 1 rfl; have f0_7 := hfr 7 rfl; try (simp only [go_sem, Nat.reduceEqDiff, Nat.reduceAdd, Nat.reduceLeDiff] at f0_0); try (simp only [go_sem, Nat.reduceEqDiff, Nat.reduceAdd, Nat.reduceLeDiff] at f0_1); try (simp only [go_sem, Nat.reduceEqDiff, Nat.reduceAdd, Nat.reduceLeDiff] at f0_7)
    have hx := List.getElem?_eq_getElem hi
    have e1 : (0 : Int) ≤ (i : Int) ∧ (i : Int) < (xs.length : Int) := by omega
    refine w_block ?_
    obtain ⟨hc, hl⟩ := hE i _ hx
    have hz' := hz i _ hx
    have hp' := hp i _ hx
    simp only [List.append_assoc, List.cons_append, List.nil_append] at hz' hp'
    (repeat' first
    | refine w_seq ?_ | refine w_rg ?_ | refine wo_nil ?_ | refine g_skU ?_ | refine g_skT ?_ | refine g_skF ?_
    | ((first | apply s_plain | apply s_void | apply s_guard | apply g_goT | apply g_goF); · simp only [go_sem, Nat.reduceEqDiff, Nat.reduceAdd, Nat.reduceLeDiff, f0_0, f0_1, f0_7, hti, e1, Int.toNat_natCast, hx, hc, List.append_assoc]; (first | done | rfl))
    | ((first | apply g_T | apply g_F | apply g_gT | apply g_gF); · intro q1_; (first | intro q2_ | have q2_ := q1_); simp only [go_sem, Nat.reduceEqDiff, Nat.reduceAdd, Nat.reduceLeDiff, f0_0, f0_1, f0_7, hti, e1, Int.toNat_natCast, hx, hc, List.append_assoc, q1_, q2_]; (first | done | rfl))
    | fail
    )
    refine s_plain (e_ldE _ _ _ _ _ _ (xs := xs) (i := i) (by simp only [go_sem, Nat.reduceEqDiff, Nat.reduceAdd, Nat.reduceLeDiff]) hx hl) ?_
    (repeat' first
    | refine w_seq ?_ | refine w_rg ?_ | refine wo_nil ?_ | refine g_skU ?_ | refine g_skT ?_ | refine g_skF ?_
    | ((first | apply s_plain | apply s_void | apply s_guard | apply g_goT | apply g_goF); · simp only [go_sem, Nat.reduceEqDiff, Nat.reduceAdd, Nat.reduceLeDiff, List.append_assoc, hz', hp']; (first | done | rfl))
    | ((first | apply g_T | apply g_F | apply g_gT | apply g_gF); · intro q1_; (first | intro q2_ | have q2_ := q1_); simp only [go_sem, Nat.reduceEqDiff, Nat.reduceAdd, Nat.reduceLeDiff, List.append_assoc, hz', hp', q1_, q2_]; (first | done | rfl))
    | fail
    )
    cases hpi : q i with
    | true =>
      (repeat' first
    | refine w_seq ?_ | refine w_rg ?_ | refine wo_nil ?_ | refine g_skU ?_ | refine g_skT ?_ | refine g_skF ?_
    | ((first | apply s_plain | apply s_void | apply s_guard | apply g_goT | apply g_goF); · simp only [go_sem, Nat.reduceEqDiff, Nat.reduceAdd, Nat.reduceLeDiff]; (first | done | rfl))
    | ((first | apply g_T | apply g_F | apply g_gT | apply g_gF); · intro q1_; (first | intro q2_ | have q2_ := q1_); simp only [go_sem, Nat.reduceEqDiff, Nat.reduceAdd, Nat.reduceLeDiff, q1_, q2_]; (first | done | rfl))
    | (apply w_condX; · simp only [go_sem, Nat.reduceEqDiff, Nat.reduceAdd, Nat.reduceLeDiff]; (first | done | rfl)); (first | refine wcd_T ?_ | refine wcd_F ?_)
    | refine w_skip ?_ | refine w_exit ?_ | refine w_ret ?_
    | fail
    )
      exact ⟨by first | exact .inr rfl | exact .inr trivial | exact .inl rfl, by simp only [go_sem, Nat.reduceEqDiff, Nat.reduceAdd, Nat.reduceLeDiff, retOf, resOf, found_hit hi h3 hpi]; first | done | rfl⟩
    | false =>
      (repeat' first
    | refine w_seq ?_ | refine w_rg ?_ | refine wo_nil ?_ | refine g_skU ?_ | refine g_skT ?_ | refine g_skF ?_
    | ((first | apply s_plain | apply s_void | apply s_guard | apply g_goT | apply g_goF); · simp only [go_sem, Nat.reduceEqDiff, Nat.reduceAdd, Nat.reduceLeDiff]; (first | done | rfl))
    | ((first | apply g_T | apply g_F | apply g_gT | apply g_gF); · intro q1_; (first | intro q2_ | have q2_ := q1_); simp only [go_sem, Nat.reduceEqDiff, Nat.reduceAdd, Nat.reduceLeDiff, q1_, q2_]; (first | done | rfl))
    | (apply w_condX; · simp only [go_sem, Nat.reduceEqDiff, Nat.reduceAdd, Nat.reduceLeDiff]; (first | done | rfl)); (first | refine wcd_T ?_ | refine wcd_F ?_)
    | refine w_skip ?_ | refine w_exit ?_ | refine w_ret ?_
    | fail
    )
      intro j hj
      by_cases hji : j = i
      · rw [hji]; exact hpi
      · exact h3 j (by omega)
  · rintro fr1 σ1 h3 hfr
    try simp only [if_true]
    (repeat' first
    | refine w_seq ?_ | refine w_rg ?_ | refine wo_nil ?_ | refine g_skU ?_ | refine g_skT ?_ | refine g_skF ?_
    | ((first | apply s_plain | apply s_void | apply s_guard | apply g_goT | apply g_goF); · simp only [go_sem, Nat.reduceEqDiff, Nat.reduceAdd, Nat.reduceLeDiff]; (first | done | rfl))
    | ((first | apply g_T | apply g_F | apply g_gT | apply g_gF); · intro q1_; (first | intro q2_ | have q2_ := q1_); simp only [go_sem, Nat.reduceEqDiff, Nat.reduceAdd, Nat.reduceLeDiff, q1_, q2_]; (first | done | rfl))
    | (apply w_condX; · simp only [go_sem, Nat.reduceEqDiff, Nat.reduceAdd, Nat.reduceLeDiff]; (first | done | rfl)); (first | refine wcd_T ?_ | refine wcd_F ?_)
    | refine w_skip ?_ | refine w_exit ?_ | refine w_ret ?_
    | fail
    )
    exact ⟨by first | exact .inr rfl | exact .inr trivial | exact .inl rfl, by simp only [go_sem, Nat.reduceEqDiff, Nat.reduceAdd, Nat.reduceLeDiff, retOf, resOf, found_none h3]; first | done | rfl⟩
theorem conF_g {k0 k1 : Nat} (hk1 : env k1 = some (dConF k0)) {xs : List PV} {k : Nat} {a b : List PV} {n : Int} (ha : ∀ σ, a.mapM (fz σ 11) = some a) (hb : ∀ σ, b.mapM (fz σ 11) = some b) (h : AV env k0 [.sl xs, .fn k a b] = some (.sc (.int .i64 n))) :
    AV env k1 [.sl xs, .fn k a b] = some (.sc (.bool (decide (n ≥ 0)))) := by
  refine AV_wp hk1 rfl ?_
  (repeat' first
    | refine w_seq ?_ | refine w_rg ?_ | refine wo_nil ?_ | refine g_skU ?_ | refine g_skT ?_ | refine g_skF ?_
    | ((first | apply s_plain | apply s_void | apply s_guard | apply g_goT | apply g_goF); · simp only [go_sem, Nat.reduceEqDiff, Nat.reduceAdd, Nat.reduceLeDiff, h, ha, hb]; (first | done | rfl))
    | ((first | apply g_T | apply g_F | apply g_gT | apply g_gF); · intro q1_; (first | intro q2_ | have q2_ := q1_); simp only [go_sem, Nat.reduceEqDiff, Nat.reduceAdd, Nat.reduceLeDiff, h, ha, hb, q1_, q2_]; (first | done | rfl))
    | (apply w_condX; · simp only [go_sem, Nat.reduceEqDiff, Nat.reduceAdd, Nat.reduceLeDiff, h, ha, hb]; (first | done | rfl)); (first | refine wcd_T ?_ | refine wcd_F ?_)
    | refine w_skip ?_ | refine w_exit ?_ | refine w_ret ?_
    | fail
    )
  exact ⟨by first | exact .inr rfl | exact .inr trivial | exact .inl rfl, by simp only [go_sem, Nat.reduceEqDiff, Nat.reduceAdd, Nat.reduceLeDiff, retOf, resOf]; first | done | rfl⟩
theorem found_any {α : Type} {l : List α} {q : Nat → Bool} {f : α → Bool} (h : ∀ i x, l[i]? = some x → q i = f x) : decide (found q l.length ≥ 0) = l.any f := by
  rw [Bool.eq_iff_iff, decide_eq_true_iff, List.any_eq_true]
  unfold found
  constructor
  · intro h0
    cases hf : (List.range l.length).find? q with
    | none => rw [hf] at h0; simp at h0
    | some i =>
      have hi : i < l.length := by simpa using List.mem_of_find?_eq_some hf
      exact ⟨l[i], List.getElem_mem hi, by rw [← h i _ (List.getElem?_eq_getElem hi)]; exact List.find?_some hf⟩
  · rintro ⟨x, hx, hfx⟩
    obtain ⟨i, hi⟩ := List.getElem?_of_mem hx
    cases hf : (List.range l.length).find? q with
    | none =>
      have := List.find?_eq_none.1 hf i (by simpa using (List.getElem?_eq_some_iff.1 hi).1)
      rw [h i x hi] at this
      exact absurd hfx this
    | some j => simp
theorem all_hit {q : Nat → Bool} {n i : Nat} (hi : i < n) (h : q i = false) : (List.range n).all q = false := by
  rw [List.all_eq_false]
  exact ⟨i, by simpa using hi, by simp [h]⟩
theorem all_all {q : Nat → Bool} {n : Nat} (h : ∀ j, j < n → q j = true) : (List.range n).all q = true := by
  rw [List.all_eq_true]
  intro j hj
  exact h j (by simpa using hj)
end

end
section
attribute [local go_sem ↓] e_mv e_pick e_bin e_eqs e_beq e_un e_cvi e_str e_s2b e_b2s e_box e_build e_bsl e_ld e_st e_nck e_mkf e_slcS e_slcL e_fa e_fld e_ia e_iaa e_ix e_ixa e_ext e_lenS e_lenL e_mnmx e_app e_appb e_bbx e_msl e_clr e_call e_callv e_icall e_slcA e_mkm e_mput e_mget e_mlen e_mdel pa_t pa_c pa_f slcSP_str hiOf_some hiOf_none loOf_some loOf_none set_eq set_ne
attribute [local go_sem] pv pv1 simple frOf_0 frOf_1 frOf_2 frOf_3 frOf_4 frOf_5 ne_eq not_false_eq_true if_true Bool.false_eq_true if_false pbin punary Option.map_some Option.bind_some pick_and pick_or opt_true Bool.true_and Bool.and_self Bool.and_true Bool.true_or Bool.false_or Bool.not_true Bool.not_false callE pcall_eq List.map_cons List.map_nil List.append_nil List.nil_append List.cons_append mapM_cons' mapM_nil' dep_eq fz_sc fz_sl fz_em fz_fn fz_fp fz_agg fz_tu fz_bx fz_ob Nat.lt_irrefl Nat.zero_lt_one Nat.lt_add_one flat clL cl Bool.or_true okc_sc okc_em okc_sl okc_ob okc_bx okc_fp okc_fn okc_agg okc_ifc cells_agg cells_sc cells_sl cells_em cells_ob cells_fn cells_bx cells_fp List.length_cons List.length_nil Nat.zero_add and_self true_and and_true new_m new_c put_m put_c nil_m nil_c nil_mm new_mm put_mm newM_m newM_c newM_mm putM_m putM_c putM_mm mkeyV_1 mkeyV_2 mapAt_eq deref List.getElem?_cons_zero List.getElem?_cons_succ List.drop_zero List.drop_succ_cons List.take_succ_cons List.take_zero Nat.le_refl false_and and_false decide_true decide_false lenP_em lenP_nil lenP_sl lenP_ob Int.ofNat_zero splice fillP fillE List.modify_zero_cons List.replicate_succ List.replicate_zero List.set_cons_zero List.drop_zero ba_data ba_size ba_toList ba_extract ba_append List.toList_toArray
def dBsF (es : Nat) (sz : Option Nat) : Def := (.code 3 [.tmp 6, .tmp 7] (.seq (.rg false [⟨.some 6, .none, .mv (.c (.int .i64 0))⟩, ⟨.some 7, .none, .mv (.c (.bool false))⟩]) (.seq (.rg false [⟨.some 12, .none, .mv (.t 0)⟩, ⟨.some 13, .none, .lenL (.t 12)⟩, ⟨.some 8, .none, .mv (.t 13)⟩]) (.seq (.rg false [⟨.some 14, .none, .mv (.t 8)⟩, ⟨.some 9, .none, .mv (.c (.int .i64 0))⟩, ⟨.some 10, .none, .mv (.t 14)⟩]) (.seq (.block 0 (.loop (.seq (.seq (.rg false [⟨.some 15, .none, .mv (.t 9)⟩, ⟨.some 16, .none, .mv (.t 10)⟩, ⟨.some 17, .none, .bin .lss (.t 15) (.t 16)⟩]) (.cond (.t 17) .skip (.exit 0))) (.block 1 (.seq (.rg false [⟨.some 18, .none, .mv (.t 9)⟩, ⟨.some 19, .none, .mv (.t 10)⟩, ⟨.some 20, .none, .bin .add (.t 18) (.t 19)⟩, ⟨.some 21, .none, .cvi .u64 (.t 20)⟩, ⟨.some 22, .none, .bin .shr (.t 21) (.c (.int .u64 1))⟩, ⟨.some 23, .none, .cvi .i64 (.t 22)⟩, ⟨.some 11, .none, .mv (.t 23)⟩]) (.seq (.rg false [⟨.some 24, .none, .mv (.t 2)⟩, ⟨.some 25, .none, .mv (.t 0)⟩, ⟨.some 26, .none, .mv (.t 11)⟩, ⟨.some 27, .none, .ia es (.t 25) (.t 26)⟩, ⟨.some 28, .none, .ld sz (.t 27)⟩, ⟨.some 29, .none, .mv (.t 1)⟩, ⟨.some 30, .none, .callv (.t 24) .pure [.t 28, .t 29]⟩, ⟨.some 31, .none, .bin .lss (.t 30) (.c (.int .i64 0))⟩]) (.cond (.t 31) (.rg false [⟨.some 32, .none, .mv (.t 11)⟩, ⟨.some 33, .none, .bin .add (.t 32) (.c (.int .i64 1))⟩, ⟨.some 9, .none, .mv (.t 33)⟩]) (.rg false [⟨.some 34, .none, .mv (.t 11)⟩, ⟨.some 10, .none, .mv (.t 34)⟩])))))))) (.seq (.rg false [⟨.some 35, .none, .mv (.t 9)⟩, ⟨.some 36, .none, .mv (.t 9)⟩, ⟨.some 37, .none, .mv (.t 8)⟩, ⟨.some 38, .none, .bin .lss (.t 36) (.t 37)⟩, ⟨.some 39, .none, .mv (.t 38)⟩, ⟨.some 40, .some (39, true), .mv (.t 2)⟩, ⟨.some 41, .some (39, true), .mv (.t 0)⟩, ⟨.some 42, .some (39, true), .mv (.t 9)⟩, ⟨.some 43, .some (39, true), .ia es (.t 41) (.t 42)⟩, ⟨.some 44, .some (39, true), .ld sz (.t 43)⟩, ⟨.some 45, .some (39, true), .mv (.t 1)⟩, ⟨.some 46, .some (39, true), .callv (.t 40) .pure [.t 44, .t 45]⟩, ⟨.some 47, .some (39, true), .bin .eql (.t 46) (.c (.int .i64 0))⟩, ⟨.some 48, .none, .pick (.t 39) (.t 47) (.c (.bool false))⟩, ⟨.some 6, .none, .mv (.t 35)⟩, ⟨.some 7, .none, .mv (.t 48)⟩]) .ret))))))
section
variable {env : Nat → Option Def} {fr : Fr} {σ σ' σ'' : St} {K : Fr → St → Prop} {Q : X → Fr → St → Prop} {p : PV} {bs : List UInt8}
theorem half {i j : Nat} (h : i + j ≤ 9223372036854775807) : IntKind.i64.wrap ((i : Int) + (j : Int)) = ((i + j : Nat) : Int) ∧ IntKind.u64.wrap ((i + j : Nat) : Int) = ((i + j : Nat) : Int) ∧
    pbin .shr (.int .u64 ((i + j : Nat) : Int)) (.int .u64 1) = some (.int .u64 (((i + j) / 2 : Nat) : Int)) ∧ IntKind.i64.wrap (((i + j) / 2 : Nat) : Int) = (((i + j) / 2 : Nat) : Int) := by
  refine ⟨by rw [IntKind.wrap_i64]; omega, ?_, ?_, by rw [IntKind.wrap_i64]; omega⟩
  · show ((i + j : Nat) : Int).emod (2 ^ 64) = _
    exact Int.emod_eq_of_lt (by omega) (by omega)
  · have e : (((i + j : Nat) : Int).fdiv (2 ^ (min (1 : Int).toNat IntKind.u64.bits))) = (((i + j) / 2 : Nat) : Int) := by
      rw [show min (1 : Int).toNat IntKind.u64.bits = 1 from rfl, Int.fdiv_eq_ediv_of_nonneg _ (by decide)]
      omega
    show (if (1 : Int) < 0 then none else some (Value.int .u64 (((i + j : Nat) : Int).fdiv (2 ^ (min (1 : Int).toNat IntKind.u64.bits))))) = _
    rw [if_neg (by decide), e]
theorem bsF_g {k0 es : Nat} {sz : Option Nat} (hk0 : env k0 = some (dBsF es sz)) {xs : List PV} {tg : PV} {k i0 : Nat} {a b : List PV} {c : Nat → Int} (hn : xs.length ≤ 4000000000000000000) (hE : Elems es sz xs)
    (hz : ∀ (i : Nat) e, xs[i]? = some e → ∀ σ, (a ++ [e, tg] ++ b).mapM (fz σ 12) = some (a ++ [e, tg] ++ b))
    (hq : ∀ (i : Nat) e, xs[i]? = some e → AV env k (a ++ [e, tg] ++ b) = some (.sc (.int .i64 (c i)))) (h0 : i0 ≤ xs.length) (hlo : ∀ i, i < i0 → c i < 0) (hhi : ∀ i, i0 ≤ i → i < xs.length → ¬ c i < 0) :
    AV env k0 [.sl xs, tg, .fn k a b] = some (.tu [.sc (.int .i64 (i0 : Int)), .sc (.bool (decide (i0 < xs.length) && (c i0 == 0)))]) := by
  refine AV_wp hk0 rfl ?_
  (repeat' first
    | refine w_seq ?_ | refine w_rg ?_ | refine wo_nil ?_ | refine g_skU ?_ | refine g_skT ?_ | refine g_skF ?_
    | ((first | apply s_plain | apply s_void | apply s_guard | apply g_goT | apply g_goF); · simp only [go_sem, Nat.reduceEqDiff, Nat.reduceAdd, Nat.reduceLeDiff]; (first | done | rfl))
    | ((first | apply g_T | apply g_F | apply g_gT | apply g_gF); · intro q1_; (first | intro q2_ | have q2_ := q1_); simp only [go_sem, Nat.reduceEqDiff, Nat.reduceAdd, Nat.reduceLeDiff, q1_, q2_]; (first | done | rfl))
    | (apply w_condX; · simp only [go_sem, Nat.reduceEqDiff, Nat.reduceAdd, Nat.reduceLeDiff]; (first | done | rfl)); (first | refine wcd_T ?_ | refine wcd_F ?_)
    | refine w_skip ?_ | refine w_exit ?_ | refine w_ret ?_
    | fail
    )
  refine w_block (w_loopF (fun m fr σ => ∃ i j : Nat, m = j - i ∧ i ≤ i0 ∧ i0 ≤ j ∧ j ≤ xs.length ∧ fr 9 = .sc (.int .i64 (i : Int)) ∧ fr 10 = .sc (.int .i64 (j : Int))) ?_ xs.length ?_)
  · rintro m fr1 σ1 ⟨i, j, rfl, hi, hj, hjn, f9, f10⟩ hfr
    have f0 := hfr 0 rfl
    have f1 := hfr 1 rfl
    have f2 := hfr 2 rfl
    have f8 := hfr 8 rfl
    simp only [go_sem, Nat.reduceEqDiff, Nat.reduceAdd, Nat.reduceLeDiff] at f0 f1 f2 f8
    by_cases hlt : i < j
    · have hd : decide ((i : Int) < (j : Int)) = true := by simp; omega
      obtain ⟨v1, v2, v3, v4⟩ := half (i := i) (j := j) (by omega)
      have hml : (i + j) / 2 < xs.length := by omega
      have hx := List.getElem?_eq_getElem hml
      obtain ⟨hc1, hc2⟩ := hE _ _ hx
      have hqx := hq _ _ hx
      have hzx := hz _ _ hx
      simp only [List.append_assoc, List.cons_append, List.nil_append] at hzx hqx
      have hh1 : i ≤ (i + j) / 2 := by omega
      have hh2 : (i + j) / 2 < j := by omega
      generalize xs[(i + j) / 2] = e at hx hc1 hc2 hqx hzx
      generalize (i + j) / 2 = h at v3 v4 hml hx hqx hh1 hh2
      have e1 : (0 : Int) ≤ (h : Int) ∧ (h : Int) < (xs.length : Int) := by omega
      (repeat' first
    | refine w_seq ?_ | refine w_rg ?_ | refine wo_nil ?_ | refine g_skU ?_ | refine g_skT ?_ | refine g_skF ?_
    | ((first | apply s_plain | apply s_void | apply s_guard | apply g_goT | apply g_goF); · simp only [go_sem, Nat.reduceEqDiff, Nat.reduceAdd, Nat.reduceLeDiff, f9, f10, hd]; (first | done | rfl))
    | ((first | apply g_T | apply g_F | apply g_gT | apply g_gF); · intro q1_; (first | intro q2_ | have q2_ := q1_); simp only [go_sem, Nat.reduceEqDiff, Nat.reduceAdd, Nat.reduceLeDiff, f9, f10, hd, q1_, q2_]; (first | done | rfl))
    | (apply w_condX; · simp only [go_sem, Nat.reduceEqDiff, Nat.reduceAdd, Nat.reduceLeDiff, f9, f10, hd]; (first | done | rfl)); (first | refine wcd_T ?_ | refine wcd_F ?_)
    | refine w_skip ?_ | refine w_exit ?_ | refine w_ret ?_
    | fail
    )
      refine w_block ?_
      (repeat' first
    | refine w_seq ?_ | refine w_rg ?_ | refine wo_nil ?_ | refine g_skU ?_ | refine g_skT ?_ | refine g_skF ?_
    | ((first | apply s_plain | apply s_void | apply s_guard | apply g_goT | apply g_goF); · simp only [go_sem, Nat.reduceEqDiff, Nat.reduceAdd, Nat.reduceLeDiff, f0, f1, f2, f9, f10, v1, v2, ↓v3, v4, e1, Int.toNat_natCast, hx, hc1]; (first | done | rfl))
    | ((first | apply g_T | apply g_F | apply g_gT | apply g_gF); · intro q1_; (first | intro q2_ | have q2_ := q1_); simp only [go_sem, Nat.reduceEqDiff, Nat.reduceAdd, Nat.reduceLeDiff, f0, f1, f2, f9, f10, v1, v2, ↓v3, v4, e1, Int.toNat_natCast, hx, hc1, q1_, q2_]; (first | done | rfl))
    | fail
    )
      refine s_plain (e_ldE _ _ _ _ _ _ (xs := xs) (i := h) (by simp only [go_sem, Nat.reduceEqDiff, Nat.reduceAdd, Nat.reduceLeDiff]) hx hc2) ?_
      (repeat' first
    | refine w_seq ?_ | refine w_rg ?_ | refine wo_nil ?_ | refine g_skU ?_ | refine g_skT ?_ | refine g_skF ?_
    | ((first | apply s_plain | apply s_void | apply s_guard | apply g_goT | apply g_goF); · simp only [go_sem, Nat.reduceEqDiff, Nat.reduceAdd, Nat.reduceLeDiff, f1, f2, List.append_assoc, hzx, hqx]; (first | done | rfl))
    | ((first | apply g_T | apply g_F | apply g_gT | apply g_gF); · intro q1_; (first | intro q2_ | have q2_ := q1_); simp only [go_sem, Nat.reduceEqDiff, Nat.reduceAdd, Nat.reduceLeDiff, f1, f2, List.append_assoc, hzx, hqx, q1_, q2_]; (first | done | rfl))
    | fail
    )
      by_cases hci : c h < 0
      · have hd2 : decide (c h < 0) = true := by simpa using hci
        have w1 : IntKind.i64.wrap ((h : Int) + 1) = ((h + 1 : Nat) : Int) := by rw [IntKind.wrap_i64]; omega
        (repeat' first
    | refine w_seq ?_ | refine w_rg ?_ | refine wo_nil ?_ | refine g_skU ?_ | refine g_skT ?_ | refine g_skF ?_
    | ((first | apply s_plain | apply s_void | apply s_guard | apply g_goT | apply g_goF); · simp only [go_sem, Nat.reduceEqDiff, Nat.reduceAdd, Nat.reduceLeDiff, hd2, w1]; (first | done | rfl))
    | ((first | apply g_T | apply g_F | apply g_gT | apply g_gF); · intro q1_; (first | intro q2_ | have q2_ := q1_); simp only [go_sem, Nat.reduceEqDiff, Nat.reduceAdd, Nat.reduceLeDiff, hd2, w1, q1_, q2_]; (first | done | rfl))
    | (apply w_condX; · simp only [go_sem, Nat.reduceEqDiff, Nat.reduceAdd, Nat.reduceLeDiff, hd2, w1]; (first | done | rfl)); (first | refine wcd_T ?_ | refine wcd_F ?_)
    | refine w_skip ?_ | refine w_exit ?_ | refine w_ret ?_
    | fail
    )
        try simp only [if_true]
        refine ⟨j - (h + 1), by omega, h + 1, j, rfl, ?_, hj, hjn, by simp only [go_sem, Nat.reduceEqDiff, Nat.reduceAdd, Nat.reduceLeDiff, w1], by simp only [go_sem, Nat.reduceEqDiff, Nat.reduceAdd, Nat.reduceLeDiff, f10]⟩
        rcases Nat.lt_or_ge h i0 with hlt2 | hge
        · exact hlt2
        · exact absurd hci (hhi h hge hml)
      · have hd2 : decide (c h < 0) = false := by simpa using hci
        (repeat' first
    | refine w_seq ?_ | refine w_rg ?_ | refine wo_nil ?_ | refine g_skU ?_ | refine g_skT ?_ | refine g_skF ?_
    | ((first | apply s_plain | apply s_void | apply s_guard | apply g_goT | apply g_goF); · simp only [go_sem, Nat.reduceEqDiff, Nat.reduceAdd, Nat.reduceLeDiff, hd2]; (first | done | rfl))
    | ((first | apply g_T | apply g_F | apply g_gT | apply g_gF); · intro q1_; (first | intro q2_ | have q2_ := q1_); simp only [go_sem, Nat.reduceEqDiff, Nat.reduceAdd, Nat.reduceLeDiff, hd2, q1_, q2_]; (first | done | rfl))
    | (apply w_condX; · simp only [go_sem, Nat.reduceEqDiff, Nat.reduceAdd, Nat.reduceLeDiff, hd2]; (first | done | rfl)); (first | refine wcd_T ?_ | refine wcd_F ?_)
    | refine w_skip ?_ | refine w_exit ?_ | refine w_ret ?_
    | fail
    )
        try simp only [if_true]
        refine ⟨h - i, by omega, i, h, rfl, hi, ?_, by omega, by simp only [go_sem, Nat.reduceEqDiff, Nat.reduceAdd, Nat.reduceLeDiff, f9], by simp only [go_sem, Nat.reduceEqDiff, Nat.reduceAdd, Nat.reduceLeDiff]⟩
        rcases Nat.lt_or_ge h i0 with hlt2 | hge
        · exact absurd (hlo h hlt2) hci
        · exact hge
    · have hij : i = i0 := by omega
      subst hij
      have hd : decide ((i : Int) < (j : Int)) = false := by simp; omega
      (repeat' first
    | refine w_seq ?_ | refine w_rg ?_ | refine wo_nil ?_ | refine g_skU ?_ | refine g_skT ?_ | refine g_skF ?_
    | ((first | apply s_plain | apply s_void | apply s_guard | apply g_goT | apply g_goF); · simp only [go_sem, Nat.reduceEqDiff, Nat.reduceAdd, Nat.reduceLeDiff, f9, f10, hd]; (first | done | rfl))
    | ((first | apply g_T | apply g_F | apply g_gT | apply g_gF); · intro q1_; (first | intro q2_ | have q2_ := q1_); simp only [go_sem, Nat.reduceEqDiff, Nat.reduceAdd, Nat.reduceLeDiff, f9, f10, hd, q1_, q2_]; (first | done | rfl))
    | (apply w_condX; · simp only [go_sem, Nat.reduceEqDiff, Nat.reduceAdd, Nat.reduceLeDiff, f9, f10, hd]; (first | done | rfl)); (first | refine wcd_T ?_ | refine wcd_F ?_)
    | refine w_skip ?_ | refine w_exit ?_ | refine w_ret ?_
    | fail
    )
      try simp only [if_true]
      try show Wp _ _ _ _ _
      by_cases hin : i < xs.length
      · have hd3 : decide ((i : Int) < (xs.length : Int)) = true := by simp; omega
        have hd4 : decide (i < xs.length) = true := by simpa using hin
        have hx := List.getElem?_eq_getElem hin
        obtain ⟨hc1, hc2⟩ := hE _ _ hx
        have hqx := hq _ _ hx
        have hzx := hz _ _ hx
        simp only [List.append_assoc, List.cons_append, List.nil_append] at hzx hqx
        generalize xs[i] = e at hx hc1 hc2 hqx hzx
        have e1 : (0 : Int) ≤ (i : Int) ∧ (i : Int) < (xs.length : Int) := by omega
        rw [hd4]
        (repeat' first
    | refine w_seq ?_ | refine w_rg ?_ | refine wo_nil ?_ | refine g_skU ?_ | refine g_skT ?_ | refine g_skF ?_
    | ((first | apply s_plain | apply s_void | apply s_guard | apply g_goT | apply g_goF); · simp only [go_sem, Nat.reduceEqDiff, Nat.reduceAdd, Nat.reduceLeDiff, f0, f1, f2, f8, f9, f10, hd3, e1, Int.toNat_natCast, hx, hc1]; (first | done | rfl))
    | ((first | apply g_T | apply g_F | apply g_gT | apply g_gF); · intro q1_; (first | intro q2_ | have q2_ := q1_); simp only [go_sem, Nat.reduceEqDiff, Nat.reduceAdd, Nat.reduceLeDiff, f0, f1, f2, f8, f9, f10, hd3, e1, Int.toNat_natCast, hx, hc1, q1_, q2_]; (first | done | rfl))
    | fail
    )
        refine g_goT (e_ldE _ _ _ _ _ _ (xs := xs) (i := i) (by simp only [go_sem, Nat.reduceEqDiff, Nat.reduceAdd, Nat.reduceLeDiff]) hx hc2) ?_
        (repeat' first
    | refine w_seq ?_ | refine w_rg ?_ | refine wo_nil ?_ | refine g_skU ?_ | refine g_skT ?_ | refine g_skF ?_
    | ((first | apply s_plain | apply s_void | apply s_guard | apply g_goT | apply g_goF); · simp only [go_sem, Nat.reduceEqDiff, Nat.reduceAdd, Nat.reduceLeDiff, f1, f2, List.append_assoc, hzx, hqx]; (first | done | rfl))
    | ((first | apply g_T | apply g_F | apply g_gT | apply g_gF); · intro q1_; (first | intro q2_ | have q2_ := q1_); simp only [go_sem, Nat.reduceEqDiff, Nat.reduceAdd, Nat.reduceLeDiff, f1, f2, List.append_assoc, hzx, hqx, q1_, q2_]; (first | done | rfl))
    | (apply w_condX; · simp only [go_sem, Nat.reduceEqDiff, Nat.reduceAdd, Nat.reduceLeDiff, f1, f2, List.append_assoc, hzx, hqx]; (first | done | rfl)); (first | refine wcd_T ?_ | refine wcd_F ?_)
    | refine w_skip ?_ | refine w_exit ?_ | refine w_ret ?_
    | fail
    )
        exact ⟨by first | exact .inr rfl | exact .inr trivial | exact .inl rfl, by simp only [go_sem, Nat.reduceEqDiff, Nat.reduceAdd, Nat.reduceLeDiff, retOf, resOf]; first | done | rfl⟩
      · have hd3 : decide ((i : Int) < (xs.length : Int)) = false := by simp; omega
        have hd4 : decide (i < xs.length) = false := by simpa using hin
        rw [hd4]
        (repeat' first
    | refine w_seq ?_ | refine w_rg ?_ | refine wo_nil ?_ | refine g_skU ?_ | refine g_skT ?_ | refine g_skF ?_
    | ((first | apply s_plain | apply s_void | apply s_guard | apply g_goT | apply g_goF); · simp only [go_sem, Nat.reduceEqDiff, Nat.reduceAdd, Nat.reduceLeDiff, f0, f1, f2, f8, f9, f10, hd3]; (first | done | rfl))
    | ((first | apply g_T | apply g_F | apply g_gT | apply g_gF); · intro q1_; (first | intro q2_ | have q2_ := q1_); simp only [go_sem, Nat.reduceEqDiff, Nat.reduceAdd, Nat.reduceLeDiff, f0, f1, f2, f8, f9, f10, hd3, q1_, q2_]; (first | done | rfl))
    | (apply w_condX; · simp only [go_sem, Nat.reduceEqDiff, Nat.reduceAdd, Nat.reduceLeDiff, f0, f1, f2, f8, f9, f10, hd3]; (first | done | rfl)); (first | refine wcd_T ?_ | refine wcd_F ?_)
    | refine w_skip ?_ | refine w_exit ?_ | refine w_ret ?_
    | fail
    )
        exact ⟨by first | exact .inr rfl | exact .inr trivial | exact .inl rfl, by simp only [go_sem, Nat.reduceEqDiff, Nat.reduceAdd, Nat.reduceLeDiff, retOf, resOf]; first | done | rfl⟩
  · exact ⟨0, xs.length, by omega, by omega, h0, Nat.le_refl _, by simp only [go_sem, Nat.reduceEqDiff, Nat.reduceAdd, Nat.reduceLeDiff]; first | done | rfl, by simp only [go_sem, Nat.reduceEqDiff, Nat.reduceAdd, Nat.reduceLeDiff]⟩
end

end
section
attribute [local go_sem ↓] e_mv e_pick e_bin e_eqs e_beq e_un e_cvi e_str e_s2b e_b2s e_box e_build e_bsl e_ld e_st e_nck e_mkf e_slcS e_slcL e_fa e_fld e_ia e_iaa e_ix e_ixa e_ext e_lenS e_lenL e_mnmx e_app e_appb e_bbx e_msl e_clr e_call e_callv e_icall e_slcA e_mkm e_mput e_mget e_mlen e_mdel pa_t pa_c pa_f slcSP_str hiOf_some hiOf_none loOf_some loOf_none set_eq set_ne
attribute [local go_sem] pv pv1 simple frOf_0 frOf_1 frOf_2 frOf_3 frOf_4 frOf_5 ne_eq not_false_eq_true if_true Bool.false_eq_true if_false pbin punary Option.map_some Option.bind_some pick_and pick_or opt_true Bool.true_and Bool.and_self Bool.and_true Bool.true_or Bool.false_or Bool.not_true Bool.not_false callE pcall_eq List.map_cons List.map_nil List.append_nil List.nil_append List.cons_append mapM_cons' mapM_nil' dep_eq fz_sc fz_sl fz_em fz_fn fz_fp fz_agg fz_tu fz_bx fz_ob Nat.lt_irrefl Nat.zero_lt_one Nat.lt_add_one flat clL cl Bool.or_true okc_sc okc_em okc_sl okc_ob okc_bx okc_fp okc_fn okc_agg okc_ifc cells_agg cells_sc cells_sl cells_em cells_ob cells_fn cells_bx cells_fp List.length_cons List.length_nil Nat.zero_add and_self true_and and_true new_m new_c put_m put_c nil_m nil_c nil_mm new_mm put_mm newM_m newM_c newM_mm putM_m putM_c putM_mm mkeyV_1 mkeyV_2 mapAt_eq deref List.getElem?_cons_zero List.getElem?_cons_succ List.drop_zero List.drop_succ_cons List.take_succ_cons List.take_zero Nat.le_refl false_and and_false decide_true decide_false lenP_em lenP_nil lenP_sl lenP_ob Int.ofNat_zero
section
variable {env : Nat → Option Def} {fr : Fr} {σ σ' σ'' : St} {K : Fr → St → Prop} {Q : X → Fr → St → Prop} {p : PV} {bs : List UInt8}
def wordC (c : UInt8) : Bool := (decide (97 ≤ c.toNat) && decide (c.toNat ≤ 122)) || (decide (48 ≤ c.toNat) && decide (c.toNat ≤ 57)) || decide (c.toNat = 95)
def wordD (l : List UInt8) : Bool := !l.isEmpty && decide (l.length ≤ 64) && l.all wordC
end

def d69 : Def := (.code 1 [.tmp 2] (.seq (.rg false [⟨.some 2, .none, .mv (.c (.bool false))⟩]) (.seq (.rg false [⟨.some 3, .none, .mv (.t 0)⟩, ⟨.some 4, .none, .bin .lss (.t 3) (.c (.int .u8 32))⟩, ⟨.some 5, .none, .mv (.t 4)⟩, ⟨.some 6, .some (5, false), .mv (.t 0)⟩, ⟨.some 7, .some (5, false), .bin .gtr (.t 6) (.c (.int .u8 126))⟩, ⟨.some 8, .none, .pick (.t 5) (.c (.bool true)) (.t 7)⟩, ⟨.some 9, .none, .mv (.t 8)⟩, ⟨.some 10, .some (9, false), .mv (.t 0)⟩, ⟨.some 11, .some (9, false), .bin .eql (.t 10) (.c (.int .u8 59))⟩, ⟨.some 12, .none, .pick (.t 9) (.c (.bool true)) (.t 11)⟩, ⟨.some 2, .none, .mv (.t 12)⟩]) .ret)))
def d53 : Def := (.code 1 [.tmp 2] (.seq (.rg false [⟨.some 2, .none, .mv (.c (.bool false))⟩]) (.seq (.rg false [⟨.some 3, .none, .mv (.f 69)⟩]) (.seq (.rg false [⟨.some 4, .none, .mv (.t 0)⟩, ⟨.some 5, .none, .bin .neq (.t 4) (.c (.string ⟨#[]⟩))⟩, ⟨.some 6, .none, .mv (.t 5)⟩, ⟨.some 7, .some (6, true), .mv (.t 0)⟩, ⟨.some 8, .some (6, true), .lenS (.t 7)⟩, ⟨.some 9, .some (6, true), .bin .leq (.t 8) (.c (.int .i64 200))⟩, ⟨.some 10, .none, .pick (.t 6) (.t 9) (.c (.bool false))⟩, ⟨.some 11, .none, .mv (.t 10)⟩, ⟨.some 12, .some (11, true), .mv (.t 0)⟩, ⟨.some 13, .some (11, true), .call 70 .pure [.t 12, .c (.string ⟨#[32]⟩)]⟩, ⟨.some 14, .some (11, true), .mv (.t 0)⟩, ⟨.some 15, .some (11, true), .bin .eql (.t 13) (.t 14)⟩, ⟨.some 16, .none, .pick (.t 11) (.t 15) (.c (.bool false))⟩, ⟨.some 17, .none, .mv (.t 16)⟩, ⟨.some 18, .some (17, true), .mv (.t 0)⟩, ⟨.some 19, .some (17, true), .s2b (.t 18)⟩, ⟨.some 20, .some (17, true), .mv (.t 3)⟩, ⟨.some 21, .some (17, true), .call 67 .pure [.t 19, .t 20]⟩, ⟨.some 22, .some (17, true), .un .not (.t 21)⟩, ⟨.some 23, .none, .pick (.t 17) (.t 22) (.c (.bool false))⟩, ⟨.some 2, .none, .mv (.t 23)⟩]) .ret))))
def lda : List (Nat × Def) := [(69, d69), (53, d53), (70, .prim (pureF trimV))]
section
variable {env : Nat → Option Def} {fr : Fr} {σ σ' σ'' : St} {K : Fr → St → Prop} {Q : X → Fr → St → Prop} {p : PV} {bs : List UInt8}
def valC (c : UInt8) : Bool := decide (32 ≤ c.toNat) && decide (c.toNat ≤ 126) && decide (c.toNat ≠ 59)
def valD (l : List UInt8) : Bool := !l.isEmpty && decide (l.length ≤ 200) && decide (Lib.trimS l [32] = l) && l.all valC
theorem byteAt_txt {l : List UInt8} {i : Nat} {c : UInt8} (h : l[i]? = some c) : byteAt ⟨l.toArray⟩ i = (c.toNat : Int) := by
  unfold byteAt
  rw [List.toList_toArray, h]
theorem any_not {α : Type} (l : List α) (f g : α → Bool) (h : ∀ x, g x = !f x) : l.any g = !l.all f := by
  rw [Bool.eq_iff_iff]
  simp [h]
theorem ba_nil : (⟨#[]⟩ : ByteArray).toList = [] := ba_toList []
theorem empty_txt (l : List UInt8) : (l == []) = l.isEmpty := by cases l <;> rfl
theorem a49t (H : Has law env) {l : List UInt8} (hn : l.length ≤ 4000000000) : AV env 49 [txt l] = some (.sc (.bool (wordD l))) := by
  have h := a49 H (s := ⟨l.toArray⟩) (by rw [ba_size]; omega)
  rw [h]
  have e : hasB oddW ⟨l.toArray⟩ = !l.all wordC := by
    unfold hasB
    rw [ba_size, found_any (l := l) (f := fun c => !wordC c) (fun i c hc => by
      rw [byteAt_txt hc]
      unfold oddW wordC
      rw [Bool.eq_iff_iff]
      simp
      omega)]
    exact any_not l wordC _ fun _ => rfl
  unfold wordB wordD
  rw [e, ba_size, ba_toList, ba_nil, empty_txt]
  congr 3
  rw [Bool.not_not]
  congr 2
  rw [Bool.eq_iff_iff]
  simp
  omega
theorem a69 (D : Has lda env) (c : Int) : AV env 69 [.sc (.int .u8 c)] = some (.sc (.bool (decide (c < 32) || decide (c > 126) || (c == 59)))) := by
  refine AV_wp (D (69, d69) (by simp [lda])) rfl ?_
  (repeat' first
    | refine w_seq ?_ | refine w_rg ?_ | refine wo_nil ?_ | refine g_skU ?_ | refine g_skT ?_ | refine g_skF ?_
    | ((first | apply s_plain | apply s_void | apply s_guard | apply g_goT | apply g_goF); · simp only [go_sem, Nat.reduceEqDiff, Nat.reduceAdd, Nat.reduceLeDiff]; (first | done | rfl))
    | ((first | apply g_T | apply g_F | apply g_gT | apply g_gF); · intro q1_; (first | intro q2_ | have q2_ := q1_); simp only [go_sem, Nat.reduceEqDiff, Nat.reduceAdd, Nat.reduceLeDiff, q1_, q2_]; (first | done | rfl))
    | (apply w_condX; · simp only [go_sem, Nat.reduceEqDiff, Nat.reduceAdd, Nat.reduceLeDiff]; (first | done | rfl)); (first | refine wcd_T ?_ | refine wcd_F ?_)
    | refine w_skip ?_ | refine w_exit ?_ | refine w_ret ?_
    | fail
    )
  exact ⟨by first | exact .inr rfl | exact .inr trivial | exact .inl rfl, by simp only [go_sem, Nat.reduceEqDiff, Nat.reduceAdd, Nat.reduceLeDiff, retOf, resOf]; first | done | rfl⟩
theorem a70 (D : Has lda env) {s t : List UInt8} (hs : s.length ≤ 4000000000) (ht : t.length ≤ 4000000000) (ha : (t.all fun b => decide (b.toNat < 128)) = true) : AV env 70 [txt s, txt t] = some (txt (Lib.trimS s t)) := by
  have h := D (70, .prim (pureF trimV)) (by simp [lda])
  refine AV_of (σ := St.nil) (r := txt (Lib.trimS s t)) ?_ rfl
  rw [EV_prim h]
  have hc : trimC ⟨s.toArray⟩ ⟨t.toArray⟩ = true := by
    unfold trimC
    rw [ba_size, ba_size, List.toList_toArray, ha]
    simp; omega
  simp only [pureF, mapM_cons', mapM_nil', scOf, Option.bind_some, trimV, str2V, hc, if_true, List.toList_toArray, Option.map_some]
theorem a53 (A : Has law env) (D : Has lda env) {l : List UInt8} (hn : l.length ≤ 4000000000) : AV env 53 [txt l] = some (.sc (.bool (valD l))) := by
  have h67 := a67b (law_lax A) (s := ⟨l.toArray⟩) (k := 69) (by rw [ba_size]; omega) (a69 D)
  have h70 := a70 D (s := l) (t := [32]) hn (by simp) (by decide)
  have e : decide (found (fun i => decide (byteAt ⟨l.toArray⟩ i < 32) || decide (byteAt ⟨l.toArray⟩ i > 126) || (byteAt ⟨l.toArray⟩ i == 59)) (⟨l.toArray⟩ : ByteArray).size ≥ 0) = !l.all valC := by
    rw [ba_size, found_any (l := l) (f := fun c => !valC c) (fun i c hc => by
      rw [byteAt_txt hc]
      unfold valC
      rw [Bool.eq_iff_iff]
      simp
      omega)]
    exact any_not l valC _ fun _ => rfl
  rw [e] at h67
  refine AV_wp (D (53, d53) (by simp [lda])) rfl ?_
  (repeat' first
    | refine w_seq ?_ | refine w_rg ?_ | refine wo_nil ?_ | refine g_skU ?_ | refine g_skT ?_ | refine g_skF ?_
    | ((first | apply s_plain | apply s_void | apply s_guard | apply g_goT | apply g_goF); · simp only [go_sem, Nat.reduceEqDiff, Nat.reduceAdd, Nat.reduceLeDiff, h67, h70, ba_data, ba_size, ba_toList, ba_extract, ba_append, List.toList_toArray, ba_nil]; (first | done | rfl))
    | ((first | apply g_T | apply g_F | apply g_gT | apply g_gF); · intro q1_; (first | intro q2_ | have q2_ := q1_); simp only [go_sem, Nat.reduceEqDiff, Nat.reduceAdd, Nat.reduceLeDiff, h67, h70, ba_data, ba_size, ba_toList, ba_extract, ba_append, List.toList_toArray, ba_nil, q1_, q2_]; (first | done | rfl))
    | (apply w_condX; · simp only [go_sem, Nat.reduceEqDiff, Nat.reduceAdd, Nat.reduceLeDiff, h67, h70, ba_data, ba_size, ba_toList, ba_extract, ba_append, List.toList_toArray, ba_nil]; (first | done | rfl)); (first | refine wcd_T ?_ | refine wcd_F ?_)
    | refine w_skip ?_ | refine w_exit ?_ | refine w_ret ?_
    | fail
    )
  have ee : ((!(l == [])) && decide ((l.length : Int) ≤ 200) && (Lib.trimS l [32] == l) && !!l.all valC) = valD l := by
    unfold valD
    rw [empty_txt, Bool.not_not]
    congr 2
    · congr 1
      rw [Bool.eq_iff_iff]; simp; omega
    · rw [Bool.eq_iff_iff]; simp
  exact ⟨by first | exact .inr rfl | exact .inr trivial | exact .inl rfl, by simp only [go_sem, Nat.reduceEqDiff, Nat.reduceAdd, Nat.reduceLeDiff, retOf, resOf, ee]; first | done | rfl⟩
end

def d37 : Def := (.code 2 [.tmp 4] (.seq (.rg false [⟨.some 4, .none, .mv (.c (.int .i64 0))⟩]) (.seq (.seq (.rg false [⟨.some 6, .none, .mv (.t 0)⟩, ⟨.some 7, .none, .lenL (.t 6)⟩, ⟨.some 8, .none, .mv (.c (.int .i64 0))⟩]) (.block 0 (.loop (.seq (.rg false [⟨.some 9, .none, .bin .lss (.t 8) (.t 7)⟩]) (.seq (.cond (.t 9) .skip (.exit 0)) (.seq (.block 1 (.seq (.rg false [⟨.some 10, .none, .mv (.t 8)⟩, ⟨.some 5, .none, .mv (.t 10)⟩]) (.seq (.rg false [⟨.some 11, .none, .mv (.t 1)⟩, ⟨.some 12, .none, .mv (.t 0)⟩, ⟨.some 13, .none, .mv (.t 5)⟩, ⟨.some 14, .none, .ia 1 (.t 12) (.t 13)⟩, ⟨.some 15, .none, .ld .none (.t 14)⟩, ⟨.some 16, .none, .bin .eql (.t 11) (.t 15)⟩]) (.cond (.t 16) (.seq (.rg false [⟨.some 17, .none, .mv (.t 5)⟩, ⟨.some 4, .none, .mv (.t 17)⟩]) .ret) .skip)))) (.rg false [⟨.some 18, .none, .bin .add (.t 8) (.c (.int .i64 1))⟩, ⟨.some 8, .none, .mv (.t 18)⟩]))))))) (.seq (.rg false [⟨.some 4, .none, .mv (.c (.int .i64 (-1)))⟩]) .ret))))
def d50 : Def := (.code 2 [.tmp 4] (.seq (.rg false [⟨.some 4, .none, .mv (.c (.bool false))⟩]) (.seq (.rg false [⟨.some 5, .none, .mv (.t 0)⟩, ⟨.some 6, .none, .mv (.t 1)⟩, ⟨.some 7, .none, .call 37 .pure [.t 5, .t 6]⟩, ⟨.some 8, .none, .bin .geq (.t 7) (.c (.int .i64 0))⟩, ⟨.some 4, .none, .mv (.t 8)⟩]) .ret)))
def d52 : Def := (.code 1 [.tmp 2] (.seq (.rg false [⟨.some 2, .none, .mv (.c (.bool false))⟩]) (.seq (.rg false [⟨.some 3, .none, .mv (.t 0)⟩, ⟨.some 4, .none, .call 53 .pure [.t 3]⟩, ⟨.some 5, .none, .un .not (.t 4)⟩, ⟨.some 2, .none, .mv (.t 5)⟩]) .ret)))
def d29 : Def := (.code 1 [.tmp 2] (.seq (.rg false [⟨.some 1, .none, .box (.t 0)⟩, ⟨.some 2, .none, .mv (.c (.bool false))⟩]) (.seq (.seq (.rg false [⟨.some 5, .none, .fa 1 (.t 1)⟩, ⟨.some 6, .none, .ld .none (.t 5)⟩, ⟨.some 7, .none, .lenL (.t 6)⟩, ⟨.some 8, .none, .mv (.c (.int .i64 0))⟩]) (.block 0 (.loop (.seq (.rg false [⟨.some 9, .none, .bin .lss (.t 8) (.t 7)⟩]) (.seq (.cond (.t 9) .skip (.exit 0)) (.seq (.block 1 (.seq (.rg false [⟨.some 10, .none, .mv (.t 8)⟩, ⟨.some 11, .none, .ia 1 (.t 6) (.t 8)⟩, ⟨.some 12, .none, .ld .none (.t 11)⟩, ⟨.some 3, .none, .mv (.t 10)⟩, ⟨.some 4, .none, .mv (.t 12)⟩]) (.seq (.rg false [⟨.some 13, .none, .mv (.t 4)⟩, ⟨.some 14, .none, .call 49 .pure [.t 13]⟩, ⟨.some 15, .none, .un .not (.t 14)⟩, ⟨.some 16, .none, .mv (.t 15)⟩, ⟨.some 17, .some (16, false), .fa 1 (.t 1)⟩, ⟨.some 18, .some (16, false), .ld .none (.t 17)⟩, ⟨.some 19, .some (16, false), .mv (.t 3)⟩, ⟨.some 20, .some (16, false), .slcL 1 (.t 18) .none (.some (.t 19))⟩, ⟨.some 21, .some (16, false), .mv (.t 4)⟩, ⟨.some 22, .some (16, false), .call 50 .pure [.t 20, .t 21]⟩, ⟨.some 23, .none, .pick (.t 16) (.c (.bool true)) (.t 22)⟩]) (.cond (.t 23) (.seq (.rg false [⟨.some 2, .none, .mv (.c (.bool false))⟩]) .ret) .skip)))) (.rg false [⟨.some 24, .none, .bin .add (.t 8) (.c (.int .i64 1))⟩, ⟨.some 8, .none, .mv (.t 24)⟩]))))))) (.seq (.rg false [⟨.some 25, .none, .fa 0 (.t 1)⟩, ⟨.some 26, .none, .ld .none (.t 25)⟩, ⟨.some 27, .none, .call 49 .pure [.t 26]⟩, ⟨.some 28, .none, .mv (.t 27)⟩, ⟨.some 29, .some (28, true), .fa 1 (.t 1)⟩, ⟨.some 30, .some (28, true), .ld .none (.t 29)⟩, ⟨.some 31, .some (28, true), .lenL (.t 30)⟩, ⟨.some 32, .some (28, true), .bin .leq (.t 31) (.c (.int .i64 64))⟩, ⟨.some 33, .none, .pick (.t 28) (.t 32) (.c (.bool false))⟩, ⟨.some 34, .none, .mv (.t 33)⟩, ⟨.some 35, .some (34, true), .fa 1 (.t 1)⟩, ⟨.some 36, .some (34, true), .ld .none (.t 35)⟩, ⟨.some 37, .some (34, true), .lenL (.t 36)⟩, ⟨.some 38, .some (34, true), .fa 2 (.t 1)⟩, ⟨.some 39, .some (34, true), .ld .none (.t 38)⟩, ⟨.some 40, .some (34, true), .lenL (.t 39)⟩, ⟨.some 41, .some (34, true), .bin .eql (.t 37) (.t 40)⟩, ⟨.some 42, .none, .pick (.t 34) (.t 41) (.c (.bool false))⟩, ⟨.some 43, .none, .mv (.t 42)⟩, ⟨.some 44, .some (43, true), .fa 2 (.t 1)⟩, ⟨.some 45, .some (43, true), .ld .none (.t 44)⟩, ⟨.some 46, .some (43, true), .call 51 .pure [.t 45, .f 52]⟩, ⟨.some 47, .some (43, true), .un .not (.t 46)⟩, ⟨.some 48, .none, .pick (.t 43) (.t 47) (.c (.bool false))⟩, ⟨.some 2, .none, .mv (.t 48)⟩]) .ret))))
def d28 : Def := (.code 1 [.tmp 2] (.seq (.rg false [⟨.some 1, .none, .box (.t 0)⟩, ⟨.some 2, .none, .mv (.c (.bool false))⟩]) (.seq (.rg false [⟨.some 3, .none, .ld (.some 3) (.t 1)⟩, ⟨.some 4, .none, .call 29 .pure [.t 3]⟩, ⟨.some 5, .none, .un .not (.t 4)⟩, ⟨.some 2, .none, .mv (.t 5)⟩]) .ret)))
def d9 : Def := (.code 1 [.tmp 2] (.seq (.rg false [⟨.some 2, .none, .mv (.c (.bool false))⟩]) (.seq (.rg false [⟨.some 3, .none, .mv (.t 0)⟩, ⟨.some 4, .none, .lenL (.t 3)⟩, ⟨.some 5, .none, .bin .leq (.t 4) (.c (.int .i64 64))⟩, ⟨.some 6, .none, .mv (.t 5)⟩, ⟨.some 7, .some (6, true), .mv (.t 0)⟩, ⟨.some 8, .some (6, true), .call 27 .pure [.t 7, .f 28]⟩, ⟨.some 9, .some (6, true), .un .not (.t 8)⟩, ⟨.some 10, .none, .pick (.t 6) (.t 9) (.c (.bool false))⟩, ⟨.some 2, .none, .mv (.t 10)⟩]) .ret)))
def ldb : List (Nat × Def) := [(37, d37), (50, d50)]
def ldc : List (Nat × Def) := [(68, dIdxF 1 none), (51, dConF 68), (52, d52), (29, d29), (28, d28), (48, dIdxF 3 (some 3)), (27, dConF 48), (9, d9)]
def txts (l : List (List UInt8)) : List PV := l.map txt
structure Df where
  ty : List UInt8
  ks : List (List UInt8)
  vs : List (List UInt8)
  deriving DecidableEq
def df (d : Df) : PV := .agg [txt d.ty, .sl (txts d.ks), .sl (txts d.vs)]
def dfs (l : List Df) : List PV := l.map df
def SmT (l : List UInt8) : Prop := l.length ≤ 4000000000
structure Df.Sm (d : Df) : Prop where
  ty : SmT d.ty
  ks : d.ks.length ≤ 4000000000 ∧ ∀ k ∈ d.ks, SmT k
  vs : d.vs.length ≤ 4000000000 ∧ ∀ v ∈ d.vs, SmT v
section
variable {env : Nat → Option Def} {fr : Fr} {σ σ' σ'' : St} {K : Fr → St → Prop} {Q : X → Fr → St → Prop} {p : PV} {bs : List UInt8}
theorem txts_len (l : List (List UInt8)) : (txts l).length = l.length := by simp [txts]
theorem txts_at {l : List (List UInt8)} {i : Nat} {s : List UInt8} (h : l[i]? = some s) : (txts l)[i]? = some (txt s) := by simp [txts, h]
theorem txts_all (l : List (List UInt8)) : (txts l).all (fun x => (cellsOf x).length == 1) = true := by
  rw [List.all_eq_true]
  intro x hx
  simp only [txts, List.mem_map] at hx
  obtain ⟨m, _, rfl⟩ := hx
  rfl
theorem txts_fz (σ : St) (d : Nat) (l : List (List UInt8)) : (txts l).mapM (fz σ (d + 1)) = some (txts l) := by
  induction l with
  | nil => rfl
  | cons m r ih =>
    show List.mapM (fz σ (d + 1)) (txt m :: txts r) = _
    rw [mapM_cons', ih]
    rfl
theorem txts_elems (l : List (List UInt8)) : Elems 1 none (txts l) := fun i e h => by
  simp only [txts, List.getElem?_map] at h
  obtain ⟨s, _, rfl⟩ := Option.map_eq_some_iff.1 h
  exact ⟨rfl, rfl⟩
theorem dfs_len (l : List Df) : (dfs l).length = l.length := by simp [dfs]
theorem dfs_elems (l : List Df) : Elems 3 (some 3) (dfs l) := fun i e h => by
  simp only [dfs, List.getElem?_map] at h
  obtain ⟨s, _, rfl⟩ := Option.map_eq_some_iff.1 h
  exact ⟨rfl, rfl⟩
theorem slcLP_sl (es : Nat) (fr : Fr) (xs : List PV) (lo hi : Option PA) : slcLP es fr (.sl xs) lo hi = if xs.all (fun x => (cellsOf x).length == es) then (hiOf xs.length fr hi).bind fun h => (loOf h fr lo).bind fun l => some (.sl ((xs.take h).drop l)) else none := rfl
def idxT (l : List (List UInt8)) (s : List UInt8) : Int := found (fun i => l[i]? == some s) l.length
theorem a37t (B : Has ldb env) {l : List (List UInt8)} (hn : l.length ≤ 9223372036854775807) (s : List UInt8) : AV env 37 [.sl (txts l), txt s] = some (.sc (.int .i64 (idxT l s))) := by
  refine AV_wp (B (37, d37) (by simp [ldb])) rfl ?_
  have hll := txts_len l
  (repeat' first
    | refine w_seq ?_ | refine w_rg ?_ | refine wo_nil ?_ | refine g_skU ?_ | refine g_skT ?_ | refine g_skF ?_
    | ((first | apply s_plain | apply s_void | apply s_guard | apply g_goT | apply g_goF); · simp only [go_sem, Nat.reduceEqDiff, Nat.reduceAdd, Nat.reduceLeDiff, hll]; (first | done | rfl))
    | ((first | apply g_T | apply g_F | apply g_gT | apply g_gF); · intro q1_; (first | intro q2_ | have q2_ := q1_); simp only [go_sem, Nat.reduceEqDiff, Nat.reduceAdd, Nat.reduceLeDiff, hll, q1_, q2_]; (first | done | rfl))
    | fail
    )
  refine w_block (w_rangeF l.length hn (fun i fr σ => ∀ j, j < i → (l[j]? == some s) = false) ⟨by decide, rfl, rfl⟩ (fun _ _ _ _ h => ⟨h, h, h⟩) (fun j hj => by omega) (by simp only [go_sem, Nat.reduceEqDiff, Nat.reduceAdd, Nat.reduceLeDiff]; first | done | rfl) (by simp only [go_sem, Nat.reduceEqDiff, Nat.reduceAdd, Nat.reduceLeDiff, hll]; first | done | rfl) ?_ ?_)
  · rintro i fr1 σ1 hi h3 hti hfr
    have f0_0 := hfr 0 rfl; have f0_1 := hfr 1 rfl; have f0_7 := hfr 7 rfl; try (simp only [go_sem, Nat.reduceEqDiff, Nat.reduceAdd, Nat.reduceLeDiff] at f0_0); try (simp only [go_sem, Nat.reduceEqDiff, Nat.reduceAdd, Nat.reduceLeDiff] at f0_1); try (simp only [go_sem, Nat.reduceEqDiff, Nat.reduceAdd, Nat.reduceLeDiff] at f0_7)
    have hq := List.getElem?_eq_getElem hi
    have hx := txts_at hq
    have e1 : (0 : Int) ≤ (i : Int) ∧ (i : Int) < (l.length : Int) := by omega
    refine w_block ?_
    (repeat' first
    | refine w_seq ?_ | refine w_rg ?_ | refine wo_nil ?_ | refine g_skU ?_ | refine g_skT ?_ | refine g_skF ?_
    | ((first | apply s_plain | apply s_void | apply s_guard | apply g_goT | apply g_goF); · simp only [go_sem, Nat.reduceEqDiff, Nat.reduceAdd, Nat.reduceLeDiff, f0_0, f0_1, f0_7, hti, e1, hll, Int.toNat_natCast, hx, ba_data, ba_size, ba_toList, ba_extract, ba_append, List.toList_toArray]; (first | done | rfl))
    | ((first | apply g_T | apply g_F | apply g_gT | apply g_gF); · intro q1_; (first | intro q2_ | have q2_ := q1_); simp only [go_sem, Nat.reduceEqDiff, Nat.reduceAdd, Nat.reduceLeDiff, f0_0, f0_1, f0_7, hti, e1, hll, Int.toNat_natCast, hx, ba_data, ba_size, ba_toList, ba_extract, ba_append, List.toList_toArray, q1_, q2_]; (first | done | rfl))
    | fail
    )
    have hb : (s == l[i]) = (l[i]? == some s) := by rw [hq, Bool.eq_iff_iff, beq_iff_eq, beq_iff_eq, Option.some.injEq]; exact eq_comm
    rw [hb]
    cases hpi : (l[i]? == some s) with
    | true =>
      (repeat' first
    | refine w_seq ?_ | refine w_rg ?_ | refine wo_nil ?_ | refine g_skU ?_ | refine g_skT ?_ | refine g_skF ?_
    | ((first | apply s_plain | apply s_void | apply s_guard | apply g_goT | apply g_goF); · simp only [go_sem, Nat.reduceEqDiff, Nat.reduceAdd, Nat.reduceLeDiff]; (first | done | rfl))
    | ((first | apply g_T | apply g_F | apply g_gT | apply g_gF); · intro q1_; (first | intro q2_ | have q2_ := q1_); simp only [go_sem, Nat.reduceEqDiff, Nat.reduceAdd, Nat.reduceLeDiff, q1_, q2_]; (first | done | rfl))
    | (apply w_condX; · simp only [go_sem, Nat.reduceEqDiff, Nat.reduceAdd, Nat.reduceLeDiff]; (first | done | rfl)); (first | refine wcd_T ?_ | refine wcd_F ?_)
    | refine w_skip ?_ | refine w_exit ?_ | refine w_ret ?_
    | fail
    )
      have hf : idxT l s = i := found_hit (p := fun i => l[i]? == some s) hi h3 hpi
      exact ⟨by first | exact .inr rfl | exact .inr trivial | exact .inl rfl, by simp only [go_sem, Nat.reduceEqDiff, Nat.reduceAdd, Nat.reduceLeDiff, retOf, resOf, hf]; first | done | rfl⟩
    | false =>
      (repeat' first
    | refine w_seq ?_ | refine w_rg ?_ | refine wo_nil ?_ | refine g_skU ?_ | refine g_skT ?_ | refine g_skF ?_
    | ((first | apply s_plain | apply s_void | apply s_guard | apply g_goT | apply g_goF); · simp only [go_sem, Nat.reduceEqDiff, Nat.reduceAdd, Nat.reduceLeDiff]; (first | done | rfl))
    | ((first | apply g_T | apply g_F | apply g_gT | apply g_gF); · intro q1_; (first | intro q2_ | have q2_ := q1_); simp only [go_sem, Nat.reduceEqDiff, Nat.reduceAdd, Nat.reduceLeDiff, q1_, q2_]; (first | done | rfl))
    | (apply w_condX; · simp only [go_sem, Nat.reduceEqDiff, Nat.reduceAdd, Nat.reduceLeDiff]; (first | done | rfl)); (first | refine wcd_T ?_ | refine wcd_F ?_)
    | refine w_skip ?_ | refine w_exit ?_ | refine w_ret ?_
    | fail
    )
      intro j hj
      by_cases hji : j = i
      · rw [hji]; exact hpi
      · exact h3 j (by omega)
  · rintro fr1 σ1 h3 hfr
    try simp only [if_true]
    (repeat' first
    | refine w_seq ?_ | refine w_rg ?_ | refine wo_nil ?_ | refine g_skU ?_ | refine g_skT ?_ | refine g_skF ?_
    | ((first | apply s_plain | apply s_void | apply s_guard | apply g_goT | apply g_goF); · simp only [go_sem, Nat.reduceEqDiff, Nat.reduceAdd, Nat.reduceLeDiff]; (first | done | rfl))
    | ((first | apply g_T | apply g_F | apply g_gT | apply g_gF); · intro q1_; (first | intro q2_ | have q2_ := q1_); simp only [go_sem, Nat.reduceEqDiff, Nat.reduceAdd, Nat.reduceLeDiff, q1_, q2_]; (first | done | rfl))
    | (apply w_condX; · simp only [go_sem, Nat.reduceEqDiff, Nat.reduceAdd, Nat.reduceLeDiff]; (first | done | rfl)); (first | refine wcd_T ?_ | refine wcd_F ?_)
    | refine w_skip ?_ | refine w_exit ?_ | refine w_ret ?_
    | fail
    )
    have hf : idxT l s = -1 := found_none (p := fun i => l[i]? == some s) h3
    exact ⟨by first | exact .inr rfl | exact .inr trivial | exact .inl rfl, by simp only [go_sem, Nat.reduceEqDiff, Nat.reduceAdd, Nat.reduceLeDiff, retOf, resOf, hf]; first | done | rfl⟩
theorem idxT_has (l : List (List UInt8)) (s : List UInt8) : decide (idxT l s ≥ 0) = l.contains s := by
  unfold idxT
  rw [found_any (f := fun x => x == s) (fun i x hx => by rw [hx]; rfl)]
  rw [Bool.eq_iff_iff]
  simp
theorem a50t (B : Has ldb env) {l : List (List UInt8)} (hn : l.length ≤ 9223372036854775807) (s : List UInt8) : AV env 50 [.sl (txts l), txt s] = some (.sc (.bool (l.contains s))) := by
  have h := a37t B hn s
  refine AV_wp (B (50, d50) (by simp [ldb])) rfl ?_
  (repeat' first
    | refine w_seq ?_ | refine w_rg ?_ | refine wo_nil ?_ | refine g_skU ?_ | refine g_skT ?_ | refine g_skF ?_
    | ((first | apply s_plain | apply s_void | apply s_guard | apply g_goT | apply g_goF); · simp only [go_sem, Nat.reduceEqDiff, Nat.reduceAdd, Nat.reduceLeDiff, h]; (first | done | rfl))
    | ((first | apply g_T | apply g_F | apply g_gT | apply g_gF); · intro q1_; (first | intro q2_ | have q2_ := q1_); simp only [go_sem, Nat.reduceEqDiff, Nat.reduceAdd, Nat.reduceLeDiff, h, q1_, q2_]; (first | done | rfl))
    | (apply w_condX; · simp only [go_sem, Nat.reduceEqDiff, Nat.reduceAdd, Nat.reduceLeDiff, h]; (first | done | rfl)); (first | refine wcd_T ?_ | refine wcd_F ?_)
    | refine w_skip ?_ | refine w_exit ?_ | refine w_ret ?_
    | fail
    )
  exact ⟨by first | exact .inr rfl | exact .inr trivial | exact .inl rfl, by simp only [go_sem, Nat.reduceEqDiff, Nat.reduceAdd, Nat.reduceLeDiff, retOf, resOf, idxT_has]; first | done | rfl⟩
def keysOk (l : List (List UInt8)) : Bool := (List.range l.length).all fun i => wordD (l.getD i []) && !(l.take i).contains (l.getD i [])
def mayD (d : Df) : Bool := keysOk d.ks && wordD d.ty && decide (d.ks.length ≤ 64) && decide (d.ks.length = d.vs.length) && d.vs.all valD
def rightD (l : List Df) : Bool := decide (l.length ≤ 64) && l.all mayD
theorem a52 (A : Has law env) (D : Has lda env) (C : Has ldc env) {s : List UInt8} (hs : SmT s) : AV env 52 [txt s] = some (.sc (.bool (!valD s))) := by
  have h := a53 A D hs
  refine AV_wp (C (52, d52) (by simp [ldc])) rfl ?_
  (repeat' first
    | refine w_seq ?_ | refine w_rg ?_ | refine wo_nil ?_ | refine g_skU ?_ | refine g_skT ?_ | refine g_skF ?_
    | ((first | apply s_plain | apply s_void | apply s_guard | apply g_goT | apply g_goF); · simp only [go_sem, Nat.reduceEqDiff, Nat.reduceAdd, Nat.reduceLeDiff, h]; (first | done | rfl))
    | ((first | apply g_T | apply g_F | apply g_gT | apply g_gF); · intro q1_; (first | intro q2_ | have q2_ := q1_); simp only [go_sem, Nat.reduceEqDiff, Nat.reduceAdd, Nat.reduceLeDiff, h, q1_, q2_]; (first | done | rfl))
    | (apply w_condX; · simp only [go_sem, Nat.reduceEqDiff, Nat.reduceAdd, Nat.reduceLeDiff, h]; (first | done | rfl)); (first | refine wcd_T ?_ | refine wcd_F ?_)
    | refine w_skip ?_ | refine w_exit ?_ | refine w_ret ?_
    | fail
    )
  exact ⟨by first | exact .inr rfl | exact .inr trivial | exact .inl rfl, by simp only [go_sem, Nat.reduceEqDiff, Nat.reduceAdd, Nat.reduceLeDiff, retOf, resOf]; first | done | rfl⟩
theorem a51 (A : Has law env) (D : Has lda env) (C : Has ldc env) {l : List (List UInt8)} (hn : l.length ≤ 9223372036854775807) (hs : ∀ k ∈ l, SmT k) : AV env 51 [.sl (txts l), .fn 52 [] []] = some (.sc (.bool (!l.all valD))) := by
  have h := conF_g (env := env) (k0 := 68) (k1 := 51) (C (51, dConF 68) (by simp [ldc])) (xs := txts l) (k := 52) (a := []) (b := []) (fun _ => rfl) (fun _ => rfl)
    (idxF_g (C (68, dIdxF 1 none) (by simp [ldc])) (q := fun i => !valD (l.getD i [])) (by rw [txts_len]; exact hn) (txts_elems l) (fun i e h σ => by
      simp only [txts, List.getElem?_map] at h
      obtain ⟨s, _, rfl⟩ := Option.map_eq_some_iff.1 h
      rfl) (fun i e h => by
      simp only [txts, List.getElem?_map] at h
      obtain ⟨s, h2, rfl⟩ := Option.map_eq_some_iff.1 h
      rw [List.getD_eq_getElem?_getD, h2]
      exact a52 A D C (hs s (List.mem_of_getElem? h2))))
  rw [h, txts_len, found_any (f := fun x => !valD x) (fun i x hx => by rw [List.getD_eq_getElem?_getD, hx]; rfl)]
  rw [any_not l valD _ fun _ => rfl]
theorem a29 (A : Has law env) (D : Has lda env) (B : Has ldb env) (C : Has ldc env) {d : Df} (h : d.Sm) : AV env 29 [df d] = some (.sc (.bool (mayD d))) := by
  have hll := txts_len d.ks
  have hlv := txts_len d.vs
  have hty := a49t A h.ty
  have hva := a51 A D C (by have := h.vs.1; omega) h.vs.2
  refine AV_wp (C (29, d29) (by simp [ldc])) rfl ?_
  unfold df
  (repeat' first
    | refine w_seq ?_ | refine w_rg ?_ | refine wo_nil ?_ | refine g_skU ?_ | refine g_skT ?_ | refine g_skF ?_
    | ((first | apply s_plain | apply s_void | apply s_guard | apply g_goT | apply g_goF); · simp only [go_sem, Nat.reduceEqDiff, Nat.reduceAdd, Nat.reduceLeDiff, hll]; (first | done | rfl))
    | ((first | apply g_T | apply g_F | apply g_gT | apply g_gF); · intro q1_; (first | intro q2_ | have q2_ := q1_); simp only [go_sem, Nat.reduceEqDiff, Nat.reduceAdd, Nat.reduceLeDiff, hll, q1_, q2_]; (first | done | rfl))
    | fail
    )
  refine w_block (w_rangeF d.ks.length (by have := h.ks.1; omega) (fun i fr σ => (∀ j, j < i → (wordD (d.ks.getD j []) && !(d.ks.take j).contains (d.ks.getD j [])) = true) ∧ σ.m 2000001 0 = some ⟨3, [df d], true, true⟩) ⟨by decide, rfl, rfl⟩ (fun _ _ _ _ h => ⟨h, h, h⟩) ⟨fun j hj => by omega, by simp only [go_sem, Nat.reduceEqDiff, Nat.reduceAdd, Nat.reduceLeDiff]; rfl⟩ (by simp only [go_sem, Nat.reduceEqDiff, Nat.reduceAdd, Nat.reduceLeDiff]; first | done | rfl) (by simp only [go_sem, Nat.reduceEqDiff, Nat.reduceAdd, Nat.reduceLeDiff, hll]; first | done | rfl) ?_ ?_)
  · rintro i fr1 σ1 hi ⟨h3, hm⟩ hti hfr
    have f0_1 := hfr 1 rfl; have f0_6 := hfr 6 rfl; have f0_7 := hfr 7 rfl; try (simp only [go_sem, Nat.reduceEqDiff, Nat.reduceAdd, Nat.reduceLeDiff] at f0_1); try (simp only [go_sem, Nat.reduceEqDiff, Nat.reduceAdd, Nat.reduceLeDiff] at f0_6); try (simp only [go_sem, Nat.reduceEqDiff, Nat.reduceAdd, Nat.reduceLeDiff] at f0_7)
    have z1 : fr1 1 = .bx 2000001 0 3 0 0 := by rw [hfr 1 rfl]; simp only [go_sem, Nat.reduceEqDiff, Nat.reduceAdd, Nat.reduceLeDiff]
    have hq := List.getElem?_eq_getElem hi
    have hx := txts_at hq
    have e1 : (0 : Int) ≤ (i : Int) ∧ (i : Int) < (d.ks.length : Int) := by omega
    have b1 : (0 : Int) ≤ (i : Int) ∧ (i : Int) ≤ (d.ks.length : Int) := by omega
    have hw := a49t A (h.ks.2 _ (List.getElem_mem hi))
    have hc := a50t B (l := d.ks.take i) (by rw [List.length_take]; have := h.ks.1; omega) d.ks[i]
    have htk : (txts d.ks).take i = txts (d.ks.take i) := by simp [txts]
    have hall := txts_all d.ks
    have hg : d.ks.getD i [] = d.ks[i] := by rw [List.getD_eq_getElem?_getD, hq]; rfl
    refine w_block ?_
    unfold df at hm
    (repeat' first
    | refine w_seq ?_ | refine w_rg ?_ | refine wo_nil ?_ | refine g_skU ?_ | refine g_skT ?_ | refine g_skF ?_
    | ((first | apply s_plain | apply s_void | apply s_guard | apply g_goT | apply g_goF); · simp only [go_sem, Nat.reduceEqDiff, Nat.reduceAdd, Nat.reduceLeDiff, f0_1, f0_6, f0_7, z1, hti, e1, hll, Int.toNat_natCast, hx, hw, hm]; (first | done | rfl))
    | ((first | apply g_T | apply g_F | apply g_gT | apply g_gF); · intro q1_; (first | intro q2_ | have q2_ := q1_); simp only [go_sem, Nat.reduceEqDiff, Nat.reduceAdd, Nat.reduceLeDiff, f0_1, f0_6, f0_7, z1, hti, e1, hll, Int.toNat_natCast, hx, hw, hm, q1_, q2_]; (first | done | rfl))
    | fail
    )
    refine g_F (v := .sl (txts (d.ks.take i))) (by
      intro hb
      simp only [go_sem, Nat.reduceEqDiff, Nat.reduceAdd, Nat.reduceLeDiff, hb, slcLP_sl, hall, hll, bound, b1, Int.toNat_natCast, htk, Bool.not_false]) ?_
    (repeat' first
    | refine w_seq ?_ | refine w_rg ?_ | refine wo_nil ?_ | refine g_skU ?_ | refine g_skT ?_ | refine g_skF ?_
    | ((first | apply s_plain | apply s_void | apply s_guard | apply g_goT | apply g_goF); · simp only [go_sem, Nat.reduceEqDiff, Nat.reduceAdd, Nat.reduceLeDiff, hc]; (first | done | rfl))
    | ((first | apply g_T | apply g_F | apply g_gT | apply g_gF); · intro q1_; (first | intro q2_ | have q2_ := q1_); simp only [go_sem, Nat.reduceEqDiff, Nat.reduceAdd, Nat.reduceLeDiff, hc, q1_, q2_]; (first | done | rfl))
    | fail
    )
    cases hpi : (wordD (d.ks.getD i []) && !(d.ks.take i).contains (d.ks.getD i [])) with
    | false =>
      have hk : keysOk d.ks = false := all_hit hi hpi
      rw [hg] at hpi
      refine w_condT (by simp only [go_sem, Nat.reduceEqDiff, Nat.reduceAdd, Nat.reduceLeDiff]; revert hpi; generalize wordD d.ks[i] = b1; generalize (d.ks.take i).contains d.ks[i] = b2; cases b1 <;> cases b2 <;> simp) ?_
      (repeat' first
    | refine w_seq ?_ | refine w_rg ?_ | refine wo_nil ?_ | refine g_skU ?_ | refine g_skT ?_ | refine g_skF ?_
    | ((first | apply s_plain | apply s_void | apply s_guard | apply g_goT | apply g_goF); · simp only [go_sem, Nat.reduceEqDiff, Nat.reduceAdd, Nat.reduceLeDiff]; (first | done | rfl))
    | ((first | apply g_T | apply g_F | apply g_gT | apply g_gF); · intro q1_; (first | intro q2_ | have q2_ := q1_); simp only [go_sem, Nat.reduceEqDiff, Nat.reduceAdd, Nat.reduceLeDiff, q1_, q2_]; (first | done | rfl))
    | (apply w_condX; · simp only [go_sem, Nat.reduceEqDiff, Nat.reduceAdd, Nat.reduceLeDiff]; (first | done | rfl)); (first | refine wcd_T ?_ | refine wcd_F ?_)
    | refine w_skip ?_ | refine w_exit ?_ | refine w_ret ?_
    | fail
    )
      exact ⟨by first | exact .inr rfl | exact .inr trivial | exact .inl rfl, by simp only [go_sem, Nat.reduceEqDiff, Nat.reduceAdd, Nat.reduceLeDiff, retOf, resOf, mayD, hk, Bool.false_and]; first | done | rfl⟩
    | true =>
      have hpi' := hpi
      rw [hg] at hpi'
      refine w_condF (by simp only [go_sem, Nat.reduceEqDiff, Nat.reduceAdd, Nat.reduceLeDiff]; revert hpi'; generalize wordD d.ks[i] = b1; generalize (d.ks.take i).contains d.ks[i] = b2; cases b1 <;> cases b2 <;> simp) ?_
      (repeat' first
    | refine w_seq ?_ | refine w_rg ?_ | refine wo_nil ?_ | refine g_skU ?_ | refine g_skT ?_ | refine g_skF ?_
    | ((first | apply s_plain | apply s_void | apply s_guard | apply g_goT | apply g_goF); · simp only [go_sem, Nat.reduceEqDiff, Nat.reduceAdd, Nat.reduceLeDiff]; (first | done | rfl))
    | ((first | apply g_T | apply g_F | apply g_gT | apply g_gF); · intro q1_; (first | intro q2_ | have q2_ := q1_); simp only [go_sem, Nat.reduceEqDiff, Nat.reduceAdd, Nat.reduceLeDiff, q1_, q2_]; (first | done | rfl))
    | (apply w_condX; · simp only [go_sem, Nat.reduceEqDiff, Nat.reduceAdd, Nat.reduceLeDiff]; (first | done | rfl)); (first | refine wcd_T ?_ | refine wcd_F ?_)
    | refine w_skip ?_ | refine w_exit ?_ | refine w_ret ?_
    | fail
    )
      refine ⟨fun j hj => ?_, by simp only [go_sem, Nat.reduceEqDiff, Nat.reduceAdd, Nat.reduceLeDiff, hm, df]⟩
      by_cases hji : j = i
      · rw [hji]; exact hpi
      · exact h3 j (by omega)
  · rintro fr1 σ1 ⟨h3, hm⟩ hfr
    have e0_1 := hfr 1 rfl; try (simp only [go_sem, Nat.reduceEqDiff, Nat.reduceAdd, Nat.reduceLeDiff] at e0_1)
    have hk : keysOk d.ks = true := all_all h3
    try simp only [if_true]
    unfold df at hm
    (repeat' first
    | refine w_seq ?_ | refine w_rg ?_ | refine wo_nil ?_ | refine g_skU ?_ | refine g_skT ?_ | refine g_skF ?_
    | ((first | apply s_plain | apply s_void | apply s_guard | apply g_goT | apply g_goF); · simp only [go_sem, Nat.reduceEqDiff, Nat.reduceAdd, Nat.reduceLeDiff, e0_1, hm, hty, hll, hlv, hva]; (first | done | rfl))
    | ((first | apply g_T | apply g_F | apply g_gT | apply g_gF); · intro q1_; (first | intro q2_ | have q2_ := q1_); simp only [go_sem, Nat.reduceEqDiff, Nat.reduceAdd, Nat.reduceLeDiff, e0_1, hm, hty, hll, hlv, hva, q1_, q2_]; (first | done | rfl))
    | (apply w_condX; · simp only [go_sem, Nat.reduceEqDiff, Nat.reduceAdd, Nat.reduceLeDiff, e0_1, hm, hty, hll, hlv, hva]; (first | done | rfl)); (first | refine wcd_T ?_ | refine wcd_F ?_)
    | refine w_skip ?_ | refine w_exit ?_ | refine w_ret ?_
    | fail
    )
    have e1 : (wordD d.ty && decide ((d.ks.length : Int) ≤ 64) && ((d.ks.length : Int) == (d.vs.length : Int)) && !!d.vs.all valD) = mayD d := by
      unfold mayD
      rw [hk, Bool.not_not, Bool.true_and]
      congr 1
      congr 1
      · congr 1
        rw [Bool.eq_iff_iff]; simp; omega
      · rw [Bool.eq_iff_iff, beq_iff_eq, decide_eq_true_eq, Int.natCast_inj]
    exact ⟨by first | exact .inr rfl | exact .inr trivial | exact .inl rfl, by simp only [go_sem, Nat.reduceEqDiff, Nat.reduceAdd, Nat.reduceLeDiff, retOf, resOf, e1]; first | done | rfl⟩
theorem a28 (A : Has law env) (D : Has lda env) (B : Has ldb env) (C : Has ldc env) {d : Df} (h : d.Sm) : AV env 28 [df d] = some (.sc (.bool (!mayD d))) := by
  have h29 := a29 A D B C h
  refine AV_wp (C (28, d28) (by simp [ldc])) rfl ?_
  unfold df at h29 ⊢
  (repeat' first
    | refine w_seq ?_ | refine w_rg ?_ | refine wo_nil ?_ | refine g_skU ?_ | refine g_skT ?_ | refine g_skF ?_
    | ((first | apply s_plain | apply s_void | apply s_guard | apply g_goT | apply g_goF); · simp only [go_sem, Nat.reduceEqDiff, Nat.reduceAdd, Nat.reduceLeDiff, h29, List.drop_zero]; (first | done | rfl))
    | ((first | apply g_T | apply g_F | apply g_gT | apply g_gF); · intro q1_; (first | intro q2_ | have q2_ := q1_); simp only [go_sem, Nat.reduceEqDiff, Nat.reduceAdd, Nat.reduceLeDiff, h29, List.drop_zero, q1_, q2_]; (first | done | rfl))
    | (apply w_condX; · simp only [go_sem, Nat.reduceEqDiff, Nat.reduceAdd, Nat.reduceLeDiff, h29, List.drop_zero]; (first | done | rfl)); (first | refine wcd_T ?_ | refine wcd_F ?_)
    | refine w_skip ?_ | refine w_exit ?_ | refine w_ret ?_
    | fail
    )
  exact ⟨by first | exact .inr rfl | exact .inr trivial | exact .inl rfl, by simp only [go_sem, Nat.reduceEqDiff, Nat.reduceAdd, Nat.reduceLeDiff, retOf, resOf]; first | done | rfl⟩
def Sms (l : List Df) : Prop := l.length ≤ 4000000000 ∧ ∀ d ∈ l, d.Sm
theorem a9 (A : Has law env) (D : Has lda env) (B : Has ldb env) (C : Has ldc env) {l : List Df} (hl : Sms l) : AV env 9 [.sl (dfs l)] = some (.sc (.bool (rightD l))) := by
  have hll := dfs_len l
  have h := conF_g (env := env) (k0 := 48) (k1 := 27) (C (27, dConF 48) (by simp [ldc])) (xs := dfs l) (k := 28) (a := []) (b := []) (fun _ => rfl) (fun _ => rfl)
    (idxF_g (C (48, dIdxF 3 (some 3)) (by simp [ldc])) (q := fun i => !mayD (l.getD i ⟨[], [], []⟩)) (by rw [hll]; have := hl.1; omega) (dfs_elems l) (fun i e h σ => by
      simp only [dfs, List.getElem?_map] at h
      obtain ⟨s, _, rfl⟩ := Option.map_eq_some_iff.1 h
      rfl) (fun i e h => by
      simp only [dfs, List.getElem?_map] at h
      obtain ⟨s, h2, rfl⟩ := Option.map_eq_some_iff.1 h
      rw [List.getD_eq_getElem?_getD, h2]
      exact a28 A D B C (hl.2 s (List.mem_of_getElem? h2))))
  rw [hll, found_any (f := fun x => !mayD x) (fun i x hx => by rw [List.getD_eq_getElem?_getD, hx]; rfl), any_not l mayD _ fun _ => rfl] at h
  refine AV_wp (C (9, d9) (by simp [ldc])) rfl ?_
  (repeat' first
    | refine w_seq ?_ | refine w_rg ?_ | refine wo_nil ?_ | refine g_skU ?_ | refine g_skT ?_ | refine g_skF ?_
    | ((first | apply s_plain | apply s_void | apply s_guard | apply g_goT | apply g_goF); · simp only [go_sem, Nat.reduceEqDiff, Nat.reduceAdd, Nat.reduceLeDiff, hll, h]; (first | done | rfl))
    | ((first | apply g_T | apply g_F | apply g_gT | apply g_gF); · intro q1_; (first | intro q2_ | have q2_ := q1_); simp only [go_sem, Nat.reduceEqDiff, Nat.reduceAdd, Nat.reduceLeDiff, hll, h, q1_, q2_]; (first | done | rfl))
    | (apply w_condX; · simp only [go_sem, Nat.reduceEqDiff, Nat.reduceAdd, Nat.reduceLeDiff, hll, h]; (first | done | rfl)); (first | refine wcd_T ?_ | refine wcd_F ?_)
    | refine w_skip ?_ | refine w_exit ?_ | refine w_ret ?_
    | fail
    )
  have e : (decide ((l.length : Int) ≤ 64) && !!l.all mayD) = rightD l := by
    unfold rightD
    rw [Bool.not_not]
    congr 1
    rw [Bool.eq_iff_iff]; simp; omega
  exact ⟨by first | exact .inr rfl | exact .inr trivial | exact .inl rfl, by simp only [go_sem, Nat.reduceEqDiff, Nat.reduceAdd, Nat.reduceLeDiff, retOf, resOf, e]; first | done | rfl⟩
instance : Inhabited Df := ⟨⟨[], [], []⟩⟩
def getD (d : Df) (k : List UInt8) : List UInt8 × Int := if idxT d.ks k < 0 ∨ idxT d.ks k ≥ d.vs.length then ([], 9) else (d.vs.getD (idxT d.ks k).toNat [], 0)
end

section
variable {env : Nat → Option Def} {fr : Fr} {σ σ' : St} {K : Fr → St → Prop} {Q : X → Fr → St → Prop}
def Gat (σ : St) (os : List Nat) (es : Nat) (w : Bool) (p : PV) (xs : List PV) : Prop := (p = .em ∧ xs = []) ∨ ∃ o g wr, o ∈ os ∧ p = .ob o g es 0 xs.length ∧ σ.m o g = some ⟨es, xs, true, wr⟩ ∧ g < σ.c o ∧ xs ≠ [] ∧ (w = true → wr = true)
theorem Gat.em {os : List Nat} {es : Nat} {w : Bool} : Gat σ os es w .em [] := .inl ⟨rfl, rfl⟩
theorem Gat.new {os : List Nat} {es : Nat} {w : Bool} {p : PV} {xs : List PV} (h : Gat σ os es w p xs) {d : Nat} (y : Obj) : Gat (σ.new d y) os es w p xs := by
  rcases h with h | ⟨o, g, wr, h0, h1, h2, h3, h4⟩
  · exact .inl h
  · refine .inr ⟨o, g, wr, h0, h1, ?_, ?_, h4⟩
    · simp only [new_m]; rw [if_neg (fun h => by obtain ⟨rfl, rfl⟩ := h; omega)]; exact h2
    · simp only [new_c]; split
      · rename_i h; subst h; omega
      · exact h3
theorem Gat.put {os : List Nat} {es : Nat} {w : Bool} {p : PV} {xs : List PV} (h : Gat σ os es w p xs) {d k : Nat} (hd : d ∉ os) (y : Option Obj) : Gat (σ.put d k y) os es w p xs := by
  rcases h with h | ⟨o, g, wr, h0, h1, h2, h3, h4⟩
  · exact .inl h
  · refine .inr ⟨o, g, wr, h0, h1, ?_, ?_, h4⟩
    · simp only [put_m]; rw [if_neg (fun (h : o = d ∧ g = k) => hd (h.1 ▸ h0))]; exact h2
    · simp only [put_c]; exact h3
theorem Gat.fz {os : List Nat} {es : Nat} {w : Bool} {p : PV} {xs : List PV} (h : Gat σ os es w p xs) (hx : xs.mapM (fz σ 11) = some xs) : fz σ 12 p = some (.sl xs) := by
  rcases h with ⟨rfl, rfl⟩ | ⟨o, g, wr, _, rfl, h2, _⟩
  · rfl
  · rw [fz_ob, h2]
    simp [hx]
theorem gat_app {E : Ev} {d es by_ : Nat} {os : List Nat} {w kw : Bool} {s' x : PA} {xs : List PV} {e : PV} (hg : Gat σ os es w (pa fr s') xs) (hd : d ∈ os) (hsrc : srcOf σ es (pa fr x) = some [e]) (hok : okc e = true) (hl : (cellsOf e).length = es) (hb : (xs.length + 1) * by_ ≤ 70368744177664) :
    ∃ p σ', evO E d fr σ (.app es by_ kw s' x) = some (p, σ') ∧ Gat σ' os es (w && kw) p (xs ++ [e]) := by
  have hall : ([e].all fun y => okc y && (cellsOf y).length == es) = true := by simp [hok, hl]
  rcases hg with ⟨h1, rfl⟩ | ⟨o, g, wr, h0, h1, h2, h3, h4, h5⟩
  · refine ⟨.ob d (σ.c d) es 0 1, σ.new d ⟨es, [e], true, true⟩, ?_, .inr ⟨d, σ.c d, true, hd, rfl, by simp [new_m], by simp [new_c], by simp, fun _ => rfl⟩⟩
    simp only [evO, hsrc, Option.bind_some, hall, if_true, h1]
    rw [if_pos (by simpa using hb)]
    rfl
  · refine ⟨.ob d (σ.c d) es 0 (xs.length + 1), (σ.put o g (if kw then none else some ⟨es, xs, false, false⟩)).new d ⟨es, xs ++ [e], true, wr && kw⟩, ?_, .inr ⟨d, σ.c d, wr && kw, hd, by simp, by simp [new_m, put_c], by simp [new_c, put_c], by simp, fun h => ?_⟩⟩
    · simp only [evO, hsrc, Option.bind_some, hall, if_true, h1, h2]
      simp
      simpa using hb
    · simp only [Bool.and_eq_true] at h ⊢
      exact ⟨h5 h.1, h.2⟩
theorem s_gat {d t es by_ : Nat} {os : List Nat} {w kw : Bool} {x : PA} {xs : List PV} {e : PV} {ops : List POp} (hg : Gat σ os es w (fr t) xs) (hd : d ∈ os) (hsrc : srcOf σ es (pa fr x) = some [e]) (hok : okc e = true) (hl : (cellsOf e).length = es) (hb : (xs.length + 1) * by_ ≤ 70368744177664)
    (h2 : ∀ p σ', Gat σ' os es (w && kw) p (xs ++ [e]) → Wos env ops K (fr.set d p) σ') : Wos env (⟨some d, none, .app es by_ kw (.t t) x⟩ :: ops) K fr σ := by
  obtain ⟨p, σ', h3, h4⟩ := gat_app (E := EV env) (fr := fr) (s' := .t t) (x := x) (kw := kw) hg hd hsrc hok hl hb
  exact s_plain h3 (h2 p σ' h4)
theorem Gat.mono {os os' : List Nat} {es : Nat} {w : Bool} {p : PV} {xs : List PV} (h : Gat σ os es w p xs) (ho : ∀ o ∈ os, o ∈ os') : Gat σ os' es false p xs := by
  rcases h with h | ⟨o, g, wr, h0, h1, h2, h3, h4, _⟩
  · exact .inl h
  · exact .inr ⟨o, g, wr, ho o h0, h1, h2, h3, h4, fun h => by cases h⟩
structure Keeps (σ σ' : St) (os : List Nat) : Prop where
  c : ∀ o, σ.c o ≤ σ'.c o
  m : ∀ o g, o ∉ os → g < σ.c o → σ'.m o g = σ.m o g
theorem Gat.keep {os os2 : List Nat} {es : Nat} {w : Bool} {p : PV} {xs : List PV} (h : Gat σ os es w p xs) (hk : Keeps σ σ' os2) (hd : ∀ o ∈ os, o ∉ os2) : Gat σ' os es w p xs := by
  rcases h with h | ⟨o, g, wr, h0, h1, h2, h3, h4⟩
  · exact .inl h
  · exact .inr ⟨o, g, wr, h0, h1, by rw [hk.m o g (hd o h0) h3]; exact h2, Nat.lt_of_lt_of_le h3 (hk.c o), h4⟩
theorem gat_len {os : List Nat} {es : Nat} {w : Bool} {p : PV} {xs : List PV} {E : Ev} {d t : Nat} (hg : Gat σ os es w p xs) (ht : fr t = p) : evO E d fr σ (.lenL (.t t)) = some (.sc (.int .i64 xs.length), σ) := by
  rcases hg with ⟨rfl, rfl⟩ | ⟨o, g, wr, h0, rfl, h2, h3, h4, h5⟩
  · simp [evO, pa, ht]
  · simp [evO, pa, ht]
theorem bound_nat {n i : Nat} {k : IntKind} (h : i ≤ n) : bound n (.sc (.int k (i : Int))) = some i := by
  simp only [bound]
  rw [if_pos (by omega)]
  rfl
theorem gat_elems {os : List Nat} {es : Nat} {w : Bool} {p : PV} {xs : List PV} (hg : Gat σ os es w p xs) : elemsOf σ p = some xs := by
  rcases hg with ⟨rfl, rfl⟩ | ⟨o, g, wr, h0, rfl, h2, h3, h4, h5⟩
  · rfl
  · simp [elemsOf, h2]
theorem Gat.one {d es : Nat} {w : Bool} {p : PV} {xs : List PV} {os : List Nat} (h : Gat σ [d] es w p xs) (hd : d ∈ os) : Gat σ os es false p xs := h.mono (by intro o ho; simp at ho; subst ho; exact hd)
theorem gat_fzd {os : List Nat} {es d : Nat} {w : Bool} {p : PV} {xs : List PV} (h : Gat σ os es w p xs) (hx : xs.mapM (fz σ d) = some xs) : fz σ (d + 1) p = some (.sl xs) := by
  rcases h with ⟨rfl, rfl⟩ | ⟨o, g, wr, _, rfl, h2, _⟩
  · rfl
  · rw [fz_ob, h2]
    simp [hx]
theorem Gat.lenP {os : List Nat} {es : Nat} {w : Bool} {p : PV} {xs : List PV} (h : Gat σ os es w p xs) : lenP p = some xs.length := by
  rcases h with ⟨rfl, rfl⟩ | ⟨o, g, wr, _, rfl, _⟩ <;> rfl
theorem mn2 (a b : Int) : mnmx false [.sc (.int .i64 a), .sc (.int .i64 b)] = some (.sc (.int .i64 (min a b))) := by
  simp only [mnmx, List.foldlM_cons, List.foldlM_nil, mn1, if_true, Bool.false_eq_true, if_false]
  have : (if b < a then b else a) = min a b := by
    rw [Int.min_def]; split <;> split <;> omega
  rw [this]; rfl
end

end
section
section
variable {env : Nat → Option Def} {fr : Fr} {σ σ' σ'' : St} {K : Fr → St → Prop} {Q : X → Fr → St → Prop} {p : PV} {P : Nat → Bool}
def SubP (P : Nat → Bool) (σ σ' : St) : Prop := ∀ o g x, P o = true → σ.m o g = some x → ∃ x', σ'.m o g = some x' ∧ x'.es = x.es ∧ x'.xs = x.xs
theorem SubP.refl (σ : St) : SubP P σ σ := fun _ _ x _ h => ⟨x, h, rfl, rfl⟩
theorem SubP.trans (h : SubP P σ σ') (h' : SubP P σ' σ'') : SubP P σ σ'' := fun o g x ho hx =>
  let ⟨y, h1, h2, h3⟩ := h o g x ho hx
  let ⟨z, h4, h5, h6⟩ := h' o g y ho h1
  ⟨z, h4, h5.trans h2, h6.trans h3⟩
theorem SubP.put (h : SubP P σ σ') {o g : Nat} (ho : P o = false) (y : Option Obj) : SubP P σ (σ'.put o g y) := fun o' g' x ho' hx => by
  obtain ⟨z, h1, h2⟩ := h o' g' x ho' hx
  refine ⟨z, ?_, h2⟩
  simp only [put_m]
  rw [if_neg (fun h => by rw [h.1, ho] at ho'; cases ho')]
  exact h1
theorem SubP.new (h : SubP P σ σ') (hF : Fresh σ') (s : Nat) (y : Obj) : SubP P σ (σ'.new s y) := fun o' g' x ho' hx => by
  obtain ⟨z, h1, h2⟩ := h o' g' x ho' hx
  refine ⟨z, ?_, h2⟩
  simp only [new_m]
  rw [if_neg]
  · exact h1
  · rintro ⟨rfl, rfl⟩
    rw [hF.none] at h1; cases h1
theorem SubP.same (h : SubP P σ σ') {o g : Nat} {x y : Obj} (hx : σ'.m o g = some x) (h1 : y.es = x.es) (h2 : y.xs = x.xs) : SubP P σ (σ'.put o g (some y)) := fun o' g' z ho' hz => by
  obtain ⟨u, q1, q2, q3⟩ := h o' g' z ho' hz
  simp only [put_m]
  by_cases hq : o' = o ∧ g' = g
  · obtain ⟨rfl, rfl⟩ := hq
    rw [hx] at q1
    simp only [Option.some.injEq] at q1
    subst q1
    exact ⟨y, by simp, h1.trans q2, h2.trans q3⟩
  · exact ⟨u, by rw [if_neg hq]; exact q1, q2, q3⟩
theorem SubP.of (h : ∀ o g, P o = true → σ'.m o g = σ.m o g) : SubP P σ σ' := fun o g x ho hx => ⟨x, by rw [h o g ho]; exact hx, rfl, rfl⟩
theorem gat_app2 {E : Ev} {d es by_ : Nat} {s' x : PA} {xs : List PV} {e : PV} (hg : Gat σ [d] es false (pa fr s') xs) (hF : Fresh σ) (hsrc : srcOf σ es (pa fr x) = some [e]) (hok : okc e = true) (hl : (cellsOf e).length = es) (hb : (xs.length + 1) * by_ ≤ 70368744177664) :
    ∃ p σ', evO E d fr σ (.app es by_ false s' x) = some (p, σ') ∧ Gat σ' [d] es false p (xs ++ [e]) ∧ Fresh σ' ∧ (∀ P, SubP P σ σ') ∧ (∀ o g, o ≠ d → σ'.m o g = σ.m o g) ∧ (∀ o, o ≠ d → σ'.c o = σ.c o) ∧ σ.c d ≤ σ'.c d := by
  have hall : ([e].all fun y => okc y && (cellsOf y).length == es) = true := by simp [hok, hl]
  rcases hg with ⟨h1, rfl⟩ | ⟨o, g, wr, h0, h1, h2, h3, h4, h5⟩
  · refine ⟨.ob d (σ.c d) es 0 1, σ.new d ⟨es, [e], true, true⟩, ?_, .inr ⟨d, σ.c d, true, by simp, rfl, by simp [new_m], by simp [new_c], by simp, fun _ => rfl⟩, hF.new _ _, fun P => (SubP.refl σ).new hF _ _, fun o g ho => ?_, fun o ho => ?_, new_c_le _ _ _ _⟩
    · simp only [evO, hsrc, Option.bind_some, hall, if_true, h1]
      rw [if_pos (by simpa using hb)]
      rfl
    · simp only [new_m]; rw [if_neg (fun h => ho h.1)]
    · simp only [new_c]; rw [if_neg (fun h => ho h)]
  · simp only [List.mem_singleton] at h0
    subst h0
    refine ⟨.ob o (σ.c o) es 0 (xs.length + 1), (σ.put o g (some ⟨es, xs, false, false⟩)).new o ⟨es, xs ++ [e], true, false⟩, ?_, .inr ⟨o, σ.c o, false, by simp, by simp, by simp [new_m, put_c], by simp [new_c, put_c], by simp, fun h => by cases h⟩,
      (hF.put h2 _).new _ _, fun P => ((SubP.refl σ).same (y := ⟨es, xs, false, false⟩) h2 rfl rfl).new (hF.put h2 _) _ _, fun o' g' ho => ?_, fun o' ho => ?_, new_c_le (σ.put o g (some ⟨es, xs, false, false⟩)) o ⟨es, xs ++ [e], true, false⟩ o⟩
    · simp only [evO, hsrc, Option.bind_some, hall, if_true, h1, h2]
      simp
      simpa using hb
    · simp only [new_m, put_m]; rw [if_neg (fun h => ho h.1), if_neg (fun h => ho h.1)]
    · simp only [new_c, put_c]; rw [if_neg (fun h => ho h)]
theorem s_gat2 {d t es by_ : Nat} {x : PA} {xs : List PV} {e : PV} {ops : List POp} (hg : Gat σ [d] es false (fr t) xs) (hF : Fresh σ) (hsrc : srcOf σ es (pa fr x) = some [e]) (hok : okc e = true) (hl : (cellsOf e).length = es) (hb : (xs.length + 1) * by_ ≤ 70368744177664)
    (h2 : ∀ p σ', Gat σ' [d] es false p (xs ++ [e]) → Fresh σ' → (∀ P, SubP P σ σ') → (∀ o g, o ≠ d → σ'.m o g = σ.m o g) → (∀ o, o ≠ d → σ'.c o = σ.c o) → σ.c d ≤ σ'.c d → Wos env ops K (fr.set d p) σ') : Wos env (⟨some d, none, .app es by_ false (.t t) x⟩ :: ops) K fr σ := by
  obtain ⟨p, σ', h3, h4, h5, h6, h7, h8, h9⟩ := gat_app2 (E := EV env) (fr := fr) (s' := .t t) (x := x) hg hF hsrc hok hl hb
  exact s_plain h3 (h2 p σ' h4 h5 h6 h7 h8 h9)
structure Kp (P : Nat → Prop) (σ σ' : St) : Prop where
  f : Fresh σ'
  m : ∀ o g, P o → g < σ.c o → σ'.m o g = σ.m o g
  c : ∀ o, σ.c o ≤ σ'.c o
theorem Kp.refl {P : Nat → Prop} (hF : Fresh σ) : Kp P σ σ := ⟨hF, fun _ _ _ _ => rfl, fun _ => Nat.le_refl _⟩
theorem Kp.trans {P : Nat → Prop} (h : Kp P σ σ') (h' : Kp P σ' σ'') : Kp P σ σ'' :=
  ⟨h'.f, fun o g hp hg => by rw [h'.m o g hp (Nat.lt_of_lt_of_le hg (h.c o)), h.m o g hp hg], fun o => Nat.le_trans (h.c o) (h'.c o)⟩
theorem Kp.new {P : Nat → Prop} (h : Kp P σ σ') (o : Nat) (y : Obj) : Kp P σ (σ'.new o y) :=
  ⟨h.f.new _ _, fun o' g' hp hg => by
    simp only [new_m]; rw [if_neg (fun e => by obtain ⟨rfl, rfl⟩ := e; have := h.c o'; omega)]; exact h.m o' g' hp hg, fun o' => Nat.le_trans (h.c o') (new_c_le _ _ _ _)⟩
theorem Kp.put {P : Nat → Prop} (h : Kp P σ σ') {o g : Nat} {x : Obj} (hx : σ'.m o g = some x) (ho : ¬ P o ∨ σ.c o ≤ g) (y : Option Obj) : Kp P σ (σ'.put o g y) :=
  ⟨h.f.put hx y, fun o' g' hp hg => by
    simp only [put_m]; rw [if_neg (fun e => by obtain ⟨rfl, rfl⟩ := e; rcases ho with ho | ho; exact ho hp; omega)]; exact h.m o' g' hp hg, h.c⟩
theorem Kp.app {P : Nat → Prop} (h : Kp P σ σ') {d : Nat} (hF : Fresh σ'') (hm : ∀ o g, o ≠ d → σ''.m o g = σ'.m o g) (hc : ∀ o, o ≠ d → σ''.c o = σ'.c o) (hd : ¬ P d) (hcd : σ'.c d ≤ σ''.c d) : Kp P σ σ'' :=
  ⟨hF, fun o g hp hg => by rw [hm o g (fun e => hd (e ▸ hp))]; exact h.m o g hp hg, fun o => by
    by_cases e : o = d
    · rw [e]; exact Nat.le_trans (h.c d) hcd
    · rw [hc o e]; exact h.c o⟩
theorem Kp.mono {P P' : Nat → Prop} (h : Kp P σ σ') (hp : ∀ o, P' o → P o) : Kp P' σ σ' := ⟨h.f, fun o g h1 h2 => h.m o g (hp o h1) h2, h.c⟩
theorem Kp.gat {P : Nat → Prop} (h : Kp P σ σ') {o es : Nat} {w : Bool} {xs : List PV} (hp : P o) (hg : Gat σ [o] es w p xs) : Gat σ' [o] es w p xs := by
  rcases hg with h1 | ⟨o', g, wr, h0, h1, h2, h3, h4⟩
  · exact .inl h1
  · simp only [List.mem_singleton] at h0
    subst h0
    exact .inr ⟨o', g, wr, by simp, h1, by rw [h.m o' g hp h3]; exact h2, Nat.lt_of_lt_of_le h3 (h.c o'), h4⟩
end

end
section
attribute [local go_sem ↓] e_mv e_pick e_bin e_eqs e_beq e_un e_cvi e_str e_s2b e_b2s e_box e_build e_bsl e_ld e_st e_nck e_mkf e_slcS e_slcL e_fa e_fld e_ia e_iaa e_ix e_ixa e_ext e_lenS e_lenL e_mnmx e_app e_appb e_bbx e_msl e_clr e_call e_callv e_icall e_slcA e_mkm e_mput e_mget e_mlen e_mdel pa_t pa_c pa_f slcSP_str hiOf_some hiOf_none loOf_some loOf_none set_eq set_ne
attribute [local go_sem] pv pv1 simple frOf_0 frOf_1 frOf_2 frOf_3 frOf_4 frOf_5 ne_eq not_false_eq_true if_true Bool.false_eq_true if_false pbin punary Option.map_some Option.bind_some pick_and pick_or opt_true Bool.true_and Bool.and_self Bool.and_true Bool.true_or Bool.false_or Bool.not_true Bool.not_false callE pcall_eq List.map_cons List.map_nil List.append_nil List.nil_append List.cons_append mapM_cons' mapM_nil' dep_eq fz_sc fz_sl fz_em fz_fn fz_fp fz_agg fz_tu fz_bx fz_ob Nat.lt_irrefl Nat.zero_lt_one Nat.lt_add_one flat clL cl Bool.or_true okc_sc okc_em okc_sl okc_ob okc_bx okc_fp okc_fn okc_agg okc_ifc cells_agg cells_sc cells_sl cells_em cells_ob cells_fn cells_bx cells_fp List.length_cons List.length_nil Nat.zero_add and_self true_and and_true new_m new_c put_m put_c nil_m nil_c nil_mm new_mm put_mm newM_m newM_c newM_mm putM_m putM_c putM_mm mkeyV_1 mkeyV_2 mapAt_eq deref List.getElem?_cons_zero List.getElem?_cons_succ List.drop_zero List.drop_succ_cons List.take_succ_cons List.take_zero Nat.le_refl false_and and_false decide_true decide_false lenP_em lenP_nil lenP_sl lenP_ob Int.ofNat_zero splice fillP fillE List.modify_zero_cons List.replicate_succ List.replicate_zero List.set_cons_zero List.drop_zero ba_data ba_size ba_toList ba_extract ba_append List.toList_toArray
def d265 : Def := (.code 1 [.tmp 2] (.seq (.rg false [⟨.some 2, .none, .mv (.c (.bool false))⟩]) (.seq (.rg false [⟨.some 3, .none, .mv (.t 0)⟩, ⟨.some 4, .none, .build (.agg #[.string ⟨#[]⟩, .slice .none 0 0, .slice .none 0 0]) [(0, (1, .t 3))]⟩, ⟨.some 5, .none, .bsl 3 (.agg #[.string ⟨#[]⟩, .slice .none 0 0, .slice .none 0 0]) 1 [(0, .t 4)]⟩, ⟨.some 6, .none, .call 9 .pure [.t 5]⟩, ⟨.some 2, .none, .mv (.t 6)⟩]) .ret)))
def d142 : Def := (.code 2 [.tmp 4] (.seq (.rg false [⟨.some 4, .none, .mv (.c (.int .i64 0))⟩]) (.seq (.rg false [⟨.some 5, .none, .mv (.t 0)⟩, ⟨.some 6, .none, .mv (.t 1)⟩, ⟨.some 7, .none, .call 153 .pure [.t 5, .t 6]⟩, ⟨.some 4, .none, .mv (.t 7)⟩]) .ret)))
def d276 : Def := (.code 2 [.tmp 4] (.seq (.rg false [⟨.some 2, .none, .box (.t 0)⟩, ⟨.some 4, .none, .mv (.c (.int .i64 0))⟩]) (.seq (.rg false [⟨.some 5, .none, .fa 0 (.t 2)⟩, ⟨.some 6, .none, .ld .none (.t 5)⟩, ⟨.some 7, .none, .mv (.t 1)⟩, ⟨.some 8, .none, .call 142 .pure [.t 6, .t 7]⟩, ⟨.some 4, .none, .mv (.t 8)⟩]) .ret)))
def d266 : Def := (.code 2 [.tmp 4, .tmp 5] (.seq (.rg false [⟨.some 4, .none, .mv (.c (.int .i64 0))⟩, ⟨.some 5, .none, .mv (.c (.bool false))⟩]) (.seq (.rg false [⟨.some 6, .none, .mv (.t 0)⟩, ⟨.some 7, .none, .mv (.t 1)⟩, ⟨.some 8, .none, .call 275 .pure [.t 6, .t 7, .f 276]⟩, ⟨.some 9, .none, .ext (.t 8) 0⟩, ⟨.some 10, .none, .ext (.t 8) 1⟩, ⟨.some 4, .none, .mv (.t 9)⟩, ⟨.some 5, .none, .mv (.t 10)⟩]) .ret)))
def d257 : Def := (.code 1 [.tmp 2] (.seq (.rg false [⟨.some 1, .none, .box (.t 0)⟩, ⟨.some 2, .none, .mv (.c (.bool false))⟩]) (.seq (.seq (.rg false [⟨.some 5, .none, .fa 0 (.t 1)⟩, ⟨.some 6, .none, .ld .none (.t 5)⟩, ⟨.some 7, .none, .lenL (.t 6)⟩, ⟨.some 8, .none, .mv (.c (.int .i64 0))⟩]) (.block 0 (.loop (.seq (.rg false [⟨.some 9, .none, .bin .lss (.t 8) (.t 7)⟩]) (.seq (.cond (.t 9) .skip (.exit 0)) (.seq (.block 1 (.seq (.rg false [⟨.some 10, .none, .mv (.t 8)⟩, ⟨.some 11, .none, .ia 3 (.t 6) (.t 8)⟩, ⟨.some 12, .none, .ld (.some 3) (.t 11)⟩, ⟨.some 4, .none, .box (.c (.agg #[.string ⟨#[]⟩, .string ⟨#[]⟩, .string ⟨#[]⟩]))⟩, ⟨.some 3, .none, .mv (.t 10)⟩, ⟨.none, .none, .st 3 (.t 4) (.t 12)⟩]) (.seq (.rg true [⟨.some 13, .none, .fa 0 (.t 4)⟩, ⟨.some 14, .none, .ld .none (.t 13)⟩, ⟨.some 15, .none, .call 265 .strict [.t 14]⟩, ⟨.some 16, .none, .un .not (.t 15)⟩, ⟨.some 17, .none, .mv (.t 16)⟩, ⟨.some 18, .some (17, false), .fa 1 (.t 4)⟩, ⟨.some 19, .some (17, false), .ld .none (.t 18)⟩, ⟨.some 20, .some (17, false), .lenS (.t 19)⟩, ⟨.some 21, .some (17, false), .fa 2 (.t 4)⟩, ⟨.some 22, .some (17, false), .ld .none (.t 21)⟩, ⟨.some 23, .some (17, false), .lenS (.t 22)⟩, ⟨.some 24, .some (17, false), .bin .add (.t 20) (.t 23)⟩, ⟨.some 25, .some (17, false), .bin .gtr (.t 24) (.c (.int .i64 16384))⟩, ⟨.some 26, .none, .pick (.t 17) (.c (.bool true)) (.t 25)⟩, ⟨.some 27, .none, .mv (.t 26)⟩, ⟨.some 28, .some (27, false), .mv (.t 3)⟩, ⟨.some 29, .some (27, false), .bin .gtr (.t 28) (.c (.int .i64 0))⟩, ⟨.some 30, .some (27, false), .mv (.t 29)⟩, ⟨.some 31, .some (30, true), .fa 0 (.t 1)⟩, ⟨.some 32, .some (30, true), .ld .none (.t 31)⟩, ⟨.some 33, .some (30, true), .mv (.t 3)⟩, ⟨.some 34, .some (30, true), .bin .sub (.t 33) (.c (.int .i64 1))⟩, ⟨.some 35, .some (30, true), .ia 3 (.t 32) (.t 34)⟩, ⟨.some 36, .some (30, true), .fa 0 (.t 35)⟩, ⟨.some 37, .some (30, true), .ld .none (.t 36)⟩, ⟨.some 38, .some (30, true), .fa 0 (.t 4)⟩, ⟨.some 39, .some (30, true), .ld .none (.t 38)⟩, ⟨.some 40, .some (30, true), .bin .geq (.t 37) (.t 39)⟩, ⟨.some 41, .some (27, false), .pick (.t 30) (.t 40) (.c (.bool false))⟩, ⟨.some 42, .none, .pick (.t 27) (.c (.bool true)) (.t 41)⟩]) (.cond (.t 42) (.seq (.rg false [⟨.some 2, .none, .mv (.c (.bool false))⟩]) .ret) .skip)))) (.rg false [⟨.some 43, .none, .bin .add (.t 8) (.c (.int .i64 1))⟩, ⟨.some 8, .none, .mv (.t 43)⟩]))))))) (.seq (.rg false [⟨.some 44, .none, .fa 0 (.t 1)⟩, ⟨.some 45, .none, .ld .none (.t 44)⟩, ⟨.some 46, .none, .lenL (.t 45)⟩, ⟨.some 47, .none, .bin .leq (.t 46) (.c (.int .i64 16))⟩, ⟨.some 2, .none, .mv (.t 47)⟩]) .ret))))
def ljc : List (Nat × Def) := [(265, d265)]
def ljd : List (Nat × Def) := [(142, d142), (276, d276), (275, dBsF 3 (some 3)), (266, d266)]
def lje : List (Nat × Def) := [(257, d257)]
def fl (f : Fl) : PV := .agg [txt f.n, txt f.s, txt f.t]
def fls (l : List Fl) : List PV := l.map fl
structure Fl.Sm (f : Fl) : Prop where
  n : f.n.length ≤ 4000000000
  s : f.s.length ≤ 4000000000
  t : f.t.length ≤ 4000000000
theorem fls_len (l : List Fl) : (fls l).length = l.length := by simp [fls]
theorem fls_at {l : List Fl} {i : Nat} {f : Fl} (h : l[i]? = some f) : (fls l)[i]? = some (fl f) := by simp [fls, h]
theorem fls_elems (l : List Fl) : Elems 3 (some 3) (fls l) := fun i e h => by
  simp only [fls, List.getElem?_map] at h
  obtain ⟨d, _, rfl⟩ := Option.map_eq_some_iff.1 h
  exact ⟨rfl, rfl⟩
theorem fl_fz (σ : St) (n : Nat) (f : Fl) : fz σ (n + 2) (fl f) = some (fl f) := rfl
theorem fls_fz (σ : St) (d : Nat) (l : List Fl) : (fls l).mapM (fz σ (d + 2)) = some (fls l) := by
  induction l with
  | nil => rfl
  | cons a l ih =>
    simp only [fls, List.map_cons] at ih ⊢
    rw [mapM_cons', fl_fz, Option.bind_some, ih]; rfl
theorem fls_all (l : List Fl) : ((fls l).all fun x => okc x && (cellsOf x).length == 3) = true := by
  rw [List.all_eq_true]
  intro x hx
  simp only [fls, List.mem_map] at hx
  obtain ⟨f, _, rfl⟩ := hx
  rfl
def okS (l : List Fl) (i : Nat) : Bool := wordD (l.getD i default).n && decide ((l.getD i default).s.length + (l.getD i default).t.length ≤ 16384) && (decide (i = 0) || Op.bytesLess (l.getD (i - 1) default).n (l.getD i default).n)
def rightS (l : List Fl) : Bool := (List.range l.length).all (okS l) && decide (l.length ≤ 16)
theorem rightS_iff {l : List Fl} : rightS l = true ↔ Srt l ∧ (∀ f ∈ l, wordD f.n = true ∧ f.s.length + f.t.length ≤ 16384) ∧ l.length ≤ 16 := by
  unfold rightS
  simp only [Bool.and_eq_true, List.all_eq_true, List.mem_range, decide_eq_true_eq]
  constructor
  · rintro ⟨h1, h2⟩
    have hok : ∀ (i : Nat) (hi : i < l.length), wordD l[i].n = true ∧ l[i].s.length + l[i].t.length ≤ 16384 ∧ (i = 0 ∨ Op.bytesLess (l.getD (i - 1) default).n l[i].n = true) := fun i hi => by
      have := h1 i hi
      simp only [okS, Bool.and_eq_true, Bool.or_eq_true, decide_eq_true_eq, List.getD_eq_getElem?_getD, List.getElem?_eq_getElem hi, Option.getD_some] at this
      rw [List.getD_eq_getElem?_getD]
      exact ⟨this.1.1, this.1.2, this.2⟩
    refine ⟨?_, fun f hf => ?_, h2⟩
    · have hstep : ∀ (i : Nat) (hi : i + 1 < l.length), Op.bytesLess l[i].n l[i + 1].n = true := fun i hi => by
        rcases (hok (i + 1) hi).2.2 with h | h
        · omega
        · rw [List.getD_eq_getElem?_getD, show i + 1 - 1 = i by omega, List.getElem?_eq_getElem (by omega)] at h
          exact h
      refine List.pairwise_iff_getElem.2 fun i j hi hj hij => ?_
      obtain ⟨d, rfl⟩ : ∃ d, j = i + 1 + d := ⟨j - i - 1, by omega⟩
      clear hij
      induction d with
      | zero => exact hstep i hj
      | succ d ih => exact bl_trans (ih (by omega)) (hstep (i + 1 + d) hj)
    · obtain ⟨i, hi, rfl⟩ := List.getElem_of_mem hf
      exact ⟨(hok i hi).1, (hok i hi).2.1⟩
  · rintro ⟨h1, h2, h3⟩
    refine ⟨fun i hi => ?_, h3⟩
    simp only [okS, Bool.and_eq_true, Bool.or_eq_true, decide_eq_true_eq, List.getD_eq_getElem?_getD, List.getElem?_eq_getElem hi, Option.getD_some]
    refine ⟨h2 _ (List.getElem_mem hi), ?_⟩
    by_cases h0 : i = 0
    · exact .inl h0
    · rw [List.getElem?_eq_getElem (show i - 1 < l.length by omega), Option.getD_some]
      exact .inr (List.pairwise_iff_getElem.1 h1 (i - 1) i (by omega) hi (by omega))
section
variable {env : Nat → Option Def} {fr : Fr} {σ σ' σ'' : St} {K : Fr → St → Prop} {Q : X → Fr → St → Prop} {p : PV} {bs : List UInt8}
theorem a265 (A : Has law env) (D : Has lda env) (B : Has ldb env) (C : Has ldc env) (E : Has ljc env) {s : List UInt8} (hs : s.length ≤ 4000000000) : AV env 265 [txt s] = some (.sc (.bool (wordD s))) := by
  have h9 := a9 A D B C (l := [⟨s, [], []⟩]) ⟨by simp, fun d hd => by
    simp only [List.mem_singleton] at hd
    subst hd
    exact ⟨hs, ⟨by simp, fun k hk => by cases hk⟩, ⟨by simp, fun k hk => by cases hk⟩⟩⟩
  have e : rightD [⟨s, [], []⟩] = wordD s := by
    simp [rightD, mayD, keysOk]
  rw [e] at h9
  simp only [dfs, List.map_cons, List.map_nil, df, txts] at h9
  refine AV_wp (E (265, d265) (by simp [ljc])) rfl ?_
  (repeat' first
    | refine w_seq ?_ | refine w_rg ?_ | refine wo_nil ?_ | refine g_skU ?_ | refine g_skT ?_ | refine g_skF ?_
    | ((first | apply s_plain | apply s_void | apply s_guard | apply g_goT | apply g_goF); · simp only [go_sem, Nat.reduceEqDiff, Nat.reduceAdd, Nat.reduceLeDiff, h9]; (first | done | rfl))
    | ((first | apply g_T | apply g_F | apply g_gT | apply g_gF); · intro q1_; (first | intro q2_ | have q2_ := q1_); simp only [go_sem, Nat.reduceEqDiff, Nat.reduceAdd, Nat.reduceLeDiff, h9, q1_, q2_]; (first | done | rfl))
    | (apply w_condX; · simp only [go_sem, Nat.reduceEqDiff, Nat.reduceAdd, Nat.reduceLeDiff, h9]; (first | done | rfl)); (first | refine wcd_T ?_ | refine wcd_F ?_)
    | refine w_skip ?_ | refine w_exit ?_ | refine w_ret ?_
    | fail
    )
  exact ⟨by first | exact .inr rfl | exact .inr trivial | exact .inl rfl, by simp only [go_sem, Nat.reduceEqDiff, Nat.reduceAdd, Nat.reduceLeDiff, retOf, resOf]; first | done | rfl⟩
theorem h_a142 (D : Has ljd env) (O : Has ljb env) (a b : List UInt8) : AV env 142 [txt a, txt b] = some (.sc (.int .i64 (Lib.compareBytes a b))) := by
  have h : AV env 153 [txt a, txt b] = some (.sc (.int .i64 (Lib.compareBytes a b))) := by
    have h := O (153, .prim cmpF) (by simp [ljb])
    refine AV_of (σ := St.nil) (r := .sc (.int .i64 (Lib.compareBytes a b))) ?_ rfl
    exact EV_of (n := 1) (by simp only [evF, h]; rfl)
  refine AV_wp (D (142, d142) (by simp [ljd])) rfl ?_
  (repeat' first
    | refine w_seq ?_ | refine w_rg ?_ | refine wo_nil ?_ | refine g_skU ?_ | refine g_skT ?_ | refine g_skF ?_
    | ((first | apply s_plain | apply s_void | apply s_guard | apply g_goT | apply g_goF); · simp only [go_sem, Nat.reduceEqDiff, Nat.reduceAdd, Nat.reduceLeDiff, h]; (first | done | rfl))
    | ((first | apply g_T | apply g_F | apply g_gT | apply g_gF); · intro q1_; (first | intro q2_ | have q2_ := q1_); simp only [go_sem, Nat.reduceEqDiff, Nat.reduceAdd, Nat.reduceLeDiff, h, q1_, q2_]; (first | done | rfl))
    | (apply w_condX; · simp only [go_sem, Nat.reduceEqDiff, Nat.reduceAdd, Nat.reduceLeDiff, h]; (first | done | rfl)); (first | refine wcd_T ?_ | refine wcd_F ?_)
    | refine w_skip ?_ | refine w_exit ?_ | refine w_ret ?_
    | fail
    )
  exact ⟨by first | exact .inr rfl | exact .inr trivial | exact .inl rfl, by simp only [go_sem, Nat.reduceEqDiff, Nat.reduceAdd, Nat.reduceLeDiff, retOf, resOf]; first | done | rfl⟩
theorem a276 (D : Has ljd env) (O : Has ljb env) (f : Fl) (n : List UInt8) : AV env 276 [fl f, txt n] = some (.sc (.int .i64 (Lib.compareBytes f.n n))) := by
  have h := h_a142 D O f.n n
  refine AV_wp (D (276, d276) (by simp [ljd])) rfl ?_
  unfold fl
  (repeat' first
    | refine w_seq ?_ | refine w_rg ?_ | refine wo_nil ?_ | refine g_skU ?_ | refine g_skT ?_ | refine g_skF ?_
    | ((first | apply s_plain | apply s_void | apply s_guard | apply g_goT | apply g_goF); · simp only [go_sem, Nat.reduceEqDiff, Nat.reduceAdd, Nat.reduceLeDiff, h]; (first | done | rfl))
    | ((first | apply g_T | apply g_F | apply g_gT | apply g_gF); · intro q1_; (first | intro q2_ | have q2_ := q1_); simp only [go_sem, Nat.reduceEqDiff, Nat.reduceAdd, Nat.reduceLeDiff, h, q1_, q2_]; (first | done | rfl))
    | (apply w_condX; · simp only [go_sem, Nat.reduceEqDiff, Nat.reduceAdd, Nat.reduceLeDiff, h]; (first | done | rfl)); (first | refine wcd_T ?_ | refine wcd_F ?_)
    | refine w_skip ?_ | refine w_exit ?_ | refine w_ret ?_
    | fail
    )
  exact ⟨by first | exact .inr rfl | exact .inr trivial | exact .inl rfl, by simp only [go_sem, Nat.reduceEqDiff, Nat.reduceAdd, Nat.reduceLeDiff, retOf, resOf]; first | done | rfl⟩
theorem cb_less : ∀ a b : List UInt8, decide (Lib.compareBytes a b < 0) = Op.bytesLess a b
  | [], [] => rfl
  | [], _ :: _ => rfl
  | _ :: _, [] => rfl
  | a :: x, b :: y => by
    have ih := cb_less x y
    simp only [Lib.compareBytes, Op.bytesLess]
    by_cases h1 : a < b
    · simp [h1]
    · by_cases h2 : b < a
      · have h3 : a ≠ b := fun h => by rw [h] at h2; exact UInt8.lt_irrefl _ h2
        simp [h1, h2, h3]
      · have h3 : a = b := by
          rw [UInt8.lt_iff_toNat_lt] at h1 h2
          exact UInt8.toNat_inj.1 (by omega)
        subst h3
        simp [UInt8.lt_irrefl, ← ih]
theorem cb_zero : ∀ a b : List UInt8, (Lib.compareBytes a b == 0) = decide (a = b)
  | [], [] => rfl
  | [], _ :: _ => by simp [Lib.compareBytes]
  | _ :: _, [] => by simp [Lib.compareBytes]
  | a :: x, b :: y => by
    have ih := cb_zero x y
    simp only [Lib.compareBytes]
    by_cases h1 : a < b
    · have h3 : a ≠ b := fun h => by rw [h] at h1; exact UInt8.lt_irrefl _ h1
      simp [h1, h3]
    · by_cases h2 : b < a
      · have h3 : a ≠ b := fun h => by rw [h] at h2; exact UInt8.lt_irrefl _ h2
        simp [h1, h2, h3]
      · have h3 : a = b := by
          rw [UInt8.lt_iff_toNat_lt] at h1 h2
          exact UInt8.toNat_inj.1 (by omega)
        subst h3
        simp [UInt8.lt_irrefl, ih]
theorem a266 (D : Has ljd env) (O : Has ljb env) {l : List Fl} (hs : Srt l) (hl : l.length ≤ 4000000000) (n : List UInt8) : AV env 266 [.sl (fls l), txt n] = some (.tu [.sc (.int .i64 (posF l n : Int)), .sc (.bool (hasF l n))]) := by
  have hbs := bsF_g (D (275, dBsF 3 (some 3)) (by simp [ljd])) (xs := fls l) (tg := txt n) (k := 276) (i0 := posF l n) (a := []) (b := []) (c := fun i => Lib.compareBytes (l.getD i default).n n) (by rw [fls_len]; omega) (fls_elems l)
    (fun i e h σ => by
      simp only [fls, List.getElem?_map] at h
      obtain ⟨d, _, rfl⟩ := Option.map_eq_some_iff.1 h
      rfl)
    (fun i e h => by
      simp only [fls, List.getElem?_map] at h
      obtain ⟨d, hd, rfl⟩ := Option.map_eq_some_iff.1 h
      rw [List.getD_eq_getElem?_getD, hd]
      exact a276 D O d n) (by rw [fls_len]; exact posF_le l n)
    (fun i hi => by
      have hil : i < l.length := Nat.lt_of_lt_of_le hi (posF_le l n)
      have := (pos_spec hs n).1 l[i] (by rw [List.mem_iff_getElem?]; exact ⟨i, by rw [List.getElem?_take, if_pos hi, List.getElem?_eq_getElem hil]⟩)
      rw [← cb_less, decide_eq_true_eq] at this
      rw [List.getD_eq_getElem?_getD, List.getElem?_eq_getElem hil]
      exact this)
    (fun i hi hil => by
      rw [fls_len] at hil
      have := (pos_spec hs n).2 l[i] (by rw [List.mem_iff_getElem?]; exact ⟨i - posF l n, by rw [List.getElem?_drop, show posF l n + (i - posF l n) = i by omega, List.getElem?_eq_getElem hil]⟩)
      rw [← cb_less, decide_eq_false_iff_not] at this
      rw [List.getD_eq_getElem?_getD, List.getElem?_eq_getElem hil]
      exact this)
  have e : (decide (posF l n < (fls l).length) && (Lib.compareBytes (l.getD (posF l n) default).n n == 0)) = hasF l n := by
    rw [pos_has hs, fls_len, cb_zero, List.getD_eq_getElem?_getD]
    by_cases h : posF l n < l.length
    · rw [List.getElem?_eq_getElem h, Option.getD_some]
      have : decide (posF l n < l.length) = true := by simpa using h
      rw [this, Bool.true_and]
      rw [Bool.eq_iff_iff]
      simp
    · rw [List.getElem?_eq_none (by omega)]
      have : decide (posF l n < l.length) = false := by simpa using h
      rw [this, Bool.false_and]
  rw [e] at hbs
  refine AV_wp (D (266, d266) (by simp [ljd])) rfl ?_
  (repeat' first
    | refine w_seq ?_ | refine w_rg ?_ | refine wo_nil ?_ | refine g_skU ?_ | refine g_skT ?_ | refine g_skF ?_
    | ((first | apply s_plain | apply s_void | apply s_guard | apply g_goT | apply g_goF); · simp only [go_sem, Nat.reduceEqDiff, Nat.reduceAdd, Nat.reduceLeDiff, hbs]; (first | done | rfl))
    | ((first | apply g_T | apply g_F | apply g_gT | apply g_gF); · intro q1_; (first | intro q2_ | have q2_ := q1_); simp only [go_sem, Nat.reduceEqDiff, Nat.reduceAdd, Nat.reduceLeDiff, hbs, q1_, q2_]; (first | done | rfl))
    | (apply w_condX; · simp only [go_sem, Nat.reduceEqDiff, Nat.reduceAdd, Nat.reduceLeDiff, hbs]; (first | done | rfl)); (first | refine wcd_T ?_ | refine wcd_F ?_)
    | refine w_skip ?_ | refine w_exit ?_ | refine w_ret ?_
    | fail
    )
  exact ⟨by first | exact .inr rfl | exact .inr trivial | exact .inl rfl, by simp only [go_sem, Nat.reduceEqDiff, Nat.reduceAdd, Nat.reduceLeDiff, retOf, resOf]; first | done | rfl⟩
end

def d277 : Def := (.code 2 [.tmp 4] (.seq (.rg false [⟨.some 3, .none, .box (.t 1)⟩, ⟨.some 4, .none, .mv (.c (.slice .none 0 0))⟩]) (.seq (.rg false [⟨.some 8, .none, .mv (.t 0)⟩, ⟨.some 9, .none, .fa 0 (.t 3)⟩, ⟨.some 10, .none, .ld .none (.t 9)⟩, ⟨.some 11, .none, .call 266 .pure [.t 8, .t 10]⟩, ⟨.some 7, .none, .mv (.t 11)⟩, ⟨.some 12, .none, .ext (.t 7) 0⟩, ⟨.some 13, .none, .ext (.t 7) 1⟩, ⟨.some 5, .none, .mv (.t 12)⟩, ⟨.some 6, .none, .mv (.t 13)⟩]) (.seq (.seq (.rg false [⟨.some 14, .none, .mv (.t 6)⟩]) (.cond (.t 14) (.seq (.rg false [⟨.some 15, .none, .mv (.t 0)⟩, ⟨.some 16, .none, .mv (.t 5)⟩, ⟨.some 17, .none, .ld (.some 3) (.t 3)⟩, ⟨.some 18, .none, .ia 3 (.t 15) (.t 16)⟩, ⟨.none, .none, .st 3 (.t 18) (.t 17)⟩]) (.seq (.rg false [⟨.some 19, .none, .mv (.t 0)⟩, ⟨.some 4, .none, .mv (.t 19)⟩]) .ret)) .skip)) (.seq (.rg false [⟨.some 20, .none, .mv (.t 0)⟩, ⟨.some 21, .none, .mv (.t 5)⟩, ⟨.some 22, .none, .ld (.some 3) (.t 3)⟩, ⟨.some 23, .none, .bsl 3 (.agg #[.string ⟨#[]⟩, .string ⟨#[]⟩, .string ⟨#[]⟩]) 1 [(0, .t 22)]⟩, ⟨.some 24, .none, .call 281 .opn [.t 20, .t 21, .t 23]⟩, ⟨.some 4, .none, .mv (.t 24)⟩]) .ret)))))
def ljf : List (Nat × Def) := [(277, d277)]
section
variable {env : Nat → Option Def} {fr : Fr} {σ σ' σ'' : St} {K : Fr → St → Prop} {Q : X → Fr → St → Prop} {p : PV} {bs : List UInt8}
theorem a257 (A : Has law env) (D : Has lda env) (B : Has ldb env) (C : Has ldc env) (E : Has ljc env) (F : Has lje env) {l : List Fl} (hl : l.length ≤ 4000000000) (hs : ∀ f ∈ l, f.Sm) : AV env 257 [.agg [.sl (fls l)]] = some (.sc (.bool (rightS l))) := by
  have hln := fls_len l
  refine AV_wp (F (257, d257) (by simp [lje])) rfl ?_
  (repeat' first
    | refine w_seq ?_ | refine w_rg ?_ | refine wo_nil ?_ | refine g_skU ?_ | refine g_skT ?_ | refine g_skF ?_
    | ((first | apply s_plain | apply s_void | apply s_guard | apply g_goT | apply g_goF); · simp only [go_sem, Nat.reduceEqDiff, Nat.reduceAdd, Nat.reduceLeDiff, hln]; (first | done | rfl))
    | ((first | apply g_T | apply g_F | apply g_gT | apply g_gF); · intro q1_; (first | intro q2_ | have q2_ := q1_); simp only [go_sem, Nat.reduceEqDiff, Nat.reduceAdd, Nat.reduceLeDiff, hln, q1_, q2_]; (first | done | rfl))
    | (apply w_condX; · simp only [go_sem, Nat.reduceEqDiff, Nat.reduceAdd, Nat.reduceLeDiff, hln]; (first | done | rfl)); (first | refine wcd_T ?_ | refine wcd_F ?_)
    | refine w_skip ?_ | refine w_exit ?_ | refine w_ret ?_
    | fail
    )
  refine w_block (w_rangeF l.length (by omega) (fun i fr σ => (∀ j, j < i → okS l j = true) ∧ σ.m 2000001 0 = some ⟨1, [.agg [.sl (fls l)]], true, true⟩) ⟨by decide, rfl, rfl⟩ (fun _ _ _ _ h => ⟨h, h, h⟩) ⟨fun j hj => by omega, by simp only [go_sem, Nat.reduceEqDiff, Nat.reduceAdd, Nat.reduceLeDiff]⟩ (by simp only [go_sem, Nat.reduceEqDiff, Nat.reduceAdd, Nat.reduceLeDiff]; first | done | rfl) (by simp only [go_sem, Nat.reduceEqDiff, Nat.reduceAdd, Nat.reduceLeDiff, hln]; first | done | rfl) ?_ ?_)
  · rintro i fr1 σ1 hi ⟨hok, g1⟩ hti hfr
    have f0_1 := hfr 1 rfl; have f0_6 := hfr 6 rfl; have f0_7 := hfr 7 rfl; try (simp only [go_sem, Nat.reduceEqDiff, Nat.reduceAdd, Nat.reduceLeDiff] at f0_1); try (simp only [go_sem, Nat.reduceEqDiff, Nat.reduceAdd, Nat.reduceLeDiff] at f0_6); try (simp only [go_sem, Nat.reduceEqDiff, Nat.reduceAdd, Nat.reduceLeDiff] at f0_7)
    have hx := List.getElem?_eq_getElem hi
    have hy := fls_at hx
    have hmm := hs _ (List.getElem_mem hi)
    have e1 : (0 : Int) ≤ (i : Int) ∧ (i : Int) < (l.length : Int) := by omega
    have h265 := a265 A D B C E (s := l[i].n) hmm.n
    have hgd : l.getD i default = l[i] := by rw [List.getD_eq_getElem?_getD, hx, Option.getD_some]
    have w1 : IntKind.i64.wrap ((l[i].s.length : Int) + (l[i].t.length : Int)) = ((l[i].s.length + l[i].t.length : Nat) : Int) := by have := hmm.s; have := hmm.t; rw [IntKind.wrap_i64]; omega
    have e2 : decide (((l[i].s.length + l[i].t.length : Nat) : Int) > 16384) = !decide (l[i].s.length + l[i].t.length ≤ 16384) := by
      by_cases h : l[i].s.length + l[i].t.length ≤ 16384
      · have h2 : ¬ ((l[i].s.length + l[i].t.length : Nat) : Int) > 16384 := by omega
        rw [decide_eq_true h, decide_eq_false h2]; rfl
      · have h2 : ((l[i].s.length + l[i].t.length : Nat) : Int) > 16384 := by omega
        rw [decide_eq_false h, decide_eq_true h2]; rfl
    have hkey : okS l i = (wordD l[i].n && decide (l[i].s.length + l[i].t.length ≤ 16384) && (decide (i = 0) || Op.bytesLess (l.getD (i - 1) default).n l[i].n)) := by
      unfold okS; rw [hgd]
    generalize l[i] = f at hx hy hmm h265 hgd w1 e2 hkey
    unfold fl at hy
    refine w_block ?_
    cases hb : (!wordD f.n || !decide (f.s.length + f.t.length ≤ 16384)) with
    | true =>
      have hno : okS l i = false := by
        rw [hkey]
        cases h1 : wordD f.n <;> cases h2 : decide (f.s.length + f.t.length ≤ 16384) <;> simp [h1, h2] at hb ⊢
      have hall : rightS l = false := by
        have : (List.range l.length).all (okS l) = false := all_hit hi hno
        unfold rightS
        rw [this]; rfl
      (repeat' first
    | refine w_seq ?_ | refine w_rg ?_ | refine wo_nil ?_ | refine g_skU ?_ | refine g_skT ?_ | refine g_skF ?_
    | ((first | apply s_plain | apply s_void | apply s_guard | apply g_goT | apply g_goF); · simp only [go_sem, Nat.reduceEqDiff, Nat.reduceAdd, Nat.reduceLeDiff, f0_1, f0_6, f0_7, hti, e1, hln, Int.toNat_natCast, hy, List.set_cons_succ, h265, List.size_toArray, w1, e2, hb, g1]; (first | done | rfl))
    | ((first | apply g_T | apply g_F | apply g_gT | apply g_gF); · intro q1_; (first | intro q2_ | have q2_ := q1_); simp only [go_sem, Nat.reduceEqDiff, Nat.reduceAdd, Nat.reduceLeDiff, f0_1, f0_6, f0_7, hti, e1, hln, Int.toNat_natCast, hy, List.set_cons_succ, h265, List.size_toArray, w1, e2, hb, g1, q1_, q2_]; (first | done | rfl))
    | (apply w_condX; · simp only [go_sem, Nat.reduceEqDiff, Nat.reduceAdd, Nat.reduceLeDiff, f0_1, f0_6, f0_7, hti, e1, hln, Int.toNat_natCast, hy, List.set_cons_succ, h265, List.size_toArray, w1, e2, hb, g1]; (first | done | rfl)); (first | refine wcd_T ?_ | refine wcd_F ?_)
    | refine w_skip ?_ | refine w_exit ?_ | refine w_ret ?_
    | fail
    )
      exact ⟨by first | exact .inr rfl | exact .inr trivial | exact .inl rfl, by simp only [go_sem, Nat.reduceEqDiff, Nat.reduceAdd, Nat.reduceLeDiff, retOf, resOf, hall]; first | done | rfl⟩
    | false =>
      have hb' : (wordD f.n && decide (f.s.length + f.t.length ≤ 16384)) = true := by
        cases h1 : wordD f.n <;> cases h2 : decide (f.s.length + f.t.length ≤ 16384) <;> simp [h1, h2] at hb ⊢
      rw [hb', Bool.true_and] at hkey
      by_cases h0 : i = 0
      · have d0 : decide ((i : Int) > 0) = false := by simp; omega
        (repeat' first
    | refine w_seq ?_ | refine w_rg ?_ | refine wo_nil ?_ | refine g_skU ?_ | refine g_skT ?_ | refine g_skF ?_
    | ((first | apply s_plain | apply s_void | apply s_guard | apply g_goT | apply g_goF); · simp only [go_sem, Nat.reduceEqDiff, Nat.reduceAdd, Nat.reduceLeDiff, f0_1, f0_6, f0_7, hti, e1, hln, Int.toNat_natCast, hy, List.set_cons_succ, h265, List.size_toArray, w1, e2, hb, d0, g1]; (first | done | rfl))
    | ((first | apply g_T | apply g_F | apply g_gT | apply g_gF); · intro q1_; (first | intro q2_ | have q2_ := q1_); simp only [go_sem, Nat.reduceEqDiff, Nat.reduceAdd, Nat.reduceLeDiff, f0_1, f0_6, f0_7, hti, e1, hln, Int.toNat_natCast, hy, List.set_cons_succ, h265, List.size_toArray, w1, e2, hb, d0, g1, q1_, q2_]; (first | done | rfl))
    | (apply w_condX; · simp only [go_sem, Nat.reduceEqDiff, Nat.reduceAdd, Nat.reduceLeDiff, f0_1, f0_6, f0_7, hti, e1, hln, Int.toNat_natCast, hy, List.set_cons_succ, h265, List.size_toArray, w1, e2, hb, d0, g1]; (first | done | rfl)); (first | refine wcd_T ?_ | refine wcd_F ?_)
    | refine w_skip ?_ | refine w_exit ?_ | refine w_ret ?_
    | fail
    )
        refine ⟨fun j hj => ?_, by simp only [go_sem, Nat.reduceEqDiff, Nat.reduceAdd, Nat.reduceLeDiff, g1]⟩
        rcases Nat.lt_succ_iff_lt_or_eq.1 hj with h | h
        · exact hok j h
        · rw [h, hkey]; simp [h0]
      · have d0 : decide ((i : Int) > 0) = true := by simp; omega
        have w2 : IntKind.i64.wrap ((i : Int) - 1) = ((i - 1 : Nat) : Int) := by rw [IntKind.wrap_i64]; omega
        have hx1 := List.getElem?_eq_getElem (show i - 1 < l.length by omega)
        have hy1 := fls_at hx1
        have e3 : (0 : Int) ≤ ((i - 1 : Nat) : Int) ∧ ((i - 1 : Nat) : Int) < (l.length : Int) := by omega
        have hgd1 : l.getD (i - 1) default = l[i - 1] := by rw [List.getD_eq_getElem?_getD, hx1, Option.getD_some]
        rw [hgd1, show decide (i = 0) = false by simpa using h0, Bool.false_or] at hkey
        generalize l[i - 1] = f1 at hx1 hy1 hgd1 hkey
        unfold fl at hy1
        cases hlt : Op.bytesLess f1.n f.n with
        | true =>
          (repeat' first
    | refine w_seq ?_ | refine w_rg ?_ | refine wo_nil ?_ | refine g_skU ?_ | refine g_skT ?_ | refine g_skF ?_
    | ((first | apply s_plain | apply s_void | apply s_guard | apply g_goT | apply g_goF); · simp only [go_sem, Nat.reduceEqDiff, Nat.reduceAdd, Nat.reduceLeDiff, f0_1, f0_6, f0_7, hti, e1, e3, hln, Int.toNat_natCast, hy, hy1, List.set_cons_succ, h265, List.size_toArray, w1, w2, e2, hb, d0, g1, hlt]; (first | done | rfl))
    | ((first | apply g_T | apply g_F | apply g_gT | apply g_gF); · intro q1_; (first | intro q2_ | have q2_ := q1_); simp only [go_sem, Nat.reduceEqDiff, Nat.reduceAdd, Nat.reduceLeDiff, f0_1, f0_6, f0_7, hti, e1, e3, hln, Int.toNat_natCast, hy, hy1, List.set_cons_succ, h265, List.size_toArray, w1, w2, e2, hb, d0, g1, hlt, q1_, q2_]; (first | done | rfl))
    | (apply w_condX; · simp only [go_sem, Nat.reduceEqDiff, Nat.reduceAdd, Nat.reduceLeDiff, f0_1, f0_6, f0_7, hti, e1, e3, hln, Int.toNat_natCast, hy, hy1, List.set_cons_succ, h265, List.size_toArray, w1, w2, e2, hb, d0, g1, hlt]; (first | done | rfl)); (first | refine wcd_T ?_ | refine wcd_F ?_)
    | refine w_skip ?_ | refine w_exit ?_ | refine w_ret ?_
    | fail
    )
          refine ⟨fun j hj => ?_, by simp only [go_sem, Nat.reduceEqDiff, Nat.reduceAdd, Nat.reduceLeDiff, g1]⟩
          rcases Nat.lt_succ_iff_lt_or_eq.1 hj with h | h
          · exact hok j h
          · rw [h, hkey, hlt]
        | false =>
          have hall : rightS l = false := by
            have : (List.range l.length).all (okS l) = false := all_hit hi (by rw [hkey, hlt])
            unfold rightS
            rw [this]; rfl
          (repeat' first
    | refine w_seq ?_ | refine w_rg ?_ | refine wo_nil ?_ | refine g_skU ?_ | refine g_skT ?_ | refine g_skF ?_
    | ((first | apply s_plain | apply s_void | apply s_guard | apply g_goT | apply g_goF); · simp only [go_sem, Nat.reduceEqDiff, Nat.reduceAdd, Nat.reduceLeDiff, f0_1, f0_6, f0_7, hti, e1, e3, hln, Int.toNat_natCast, hy, hy1, List.set_cons_succ, h265, List.size_toArray, w1, w2, e2, hb, d0, g1, hlt]; (first | done | rfl))
    | ((first | apply g_T | apply g_F | apply g_gT | apply g_gF); · intro q1_; (first | intro q2_ | have q2_ := q1_); simp only [go_sem, Nat.reduceEqDiff, Nat.reduceAdd, Nat.reduceLeDiff, f0_1, f0_6, f0_7, hti, e1, e3, hln, Int.toNat_natCast, hy, hy1, List.set_cons_succ, h265, List.size_toArray, w1, w2, e2, hb, d0, g1, hlt, q1_, q2_]; (first | done | rfl))
    | (apply w_condX; · simp only [go_sem, Nat.reduceEqDiff, Nat.reduceAdd, Nat.reduceLeDiff, f0_1, f0_6, f0_7, hti, e1, e3, hln, Int.toNat_natCast, hy, hy1, List.set_cons_succ, h265, List.size_toArray, w1, w2, e2, hb, d0, g1, hlt]; (first | done | rfl)); (first | refine wcd_T ?_ | refine wcd_F ?_)
    | refine w_skip ?_ | refine w_exit ?_ | refine w_ret ?_
    | fail
    )
          exact ⟨by first | exact .inr rfl | exact .inr trivial | exact .inl rfl, by simp only [go_sem, Nat.reduceEqDiff, Nat.reduceAdd, Nat.reduceLeDiff, retOf, resOf, hall]; first | done | rfl⟩
  · rintro fr1 σ1 ⟨hok, g1⟩ hfr
    have e0_1 := hfr 1 rfl; try (simp only [go_sem, Nat.reduceEqDiff, Nat.reduceAdd, Nat.reduceLeDiff] at e0_1)
    try simp only [if_true]
    have hall : (List.range l.length).all (okS l) = true := by
      rw [List.all_eq_true]
      intro i hi
      exact hok i (by simpa using hi)
    have e3 : decide ((l.length : Int) ≤ 16) = decide (l.length ≤ 16) := by
      by_cases h : l.length ≤ 16
      · rw [decide_eq_true h, decide_eq_true (show (l.length : Int) ≤ 16 by omega)]
      · rw [decide_eq_false h, decide_eq_false (show ¬ (l.length : Int) ≤ 16 by omega)]
    (repeat' first
    | refine w_seq ?_ | refine w_rg ?_ | refine wo_nil ?_ | refine g_skU ?_ | refine g_skT ?_ | refine g_skF ?_
    | ((first | apply s_plain | apply s_void | apply s_guard | apply g_goT | apply g_goF); · simp only [go_sem, Nat.reduceEqDiff, Nat.reduceAdd, Nat.reduceLeDiff, e0_1, g1, hln, e3]; (first | done | rfl))
    | ((first | apply g_T | apply g_F | apply g_gT | apply g_gF); · intro q1_; (first | intro q2_ | have q2_ := q1_); simp only [go_sem, Nat.reduceEqDiff, Nat.reduceAdd, Nat.reduceLeDiff, e0_1, g1, hln, e3, q1_, q2_]; (first | done | rfl))
    | (apply w_condX; · simp only [go_sem, Nat.reduceEqDiff, Nat.reduceAdd, Nat.reduceLeDiff, e0_1, g1, hln, e3]; (first | done | rfl)); (first | refine wcd_T ?_ | refine wcd_F ?_)
    | refine w_skip ?_ | refine w_exit ?_ | refine w_ret ?_
    | fail
    )
    exact ⟨by first | exact .inr rfl | exact .inr trivial | exact .inl rfl, by simp only [go_sem, Nat.reduceEqDiff, Nat.reduceAdd, Nat.reduceLeDiff, retOf, resOf, rightS, hall]; first | done | rfl⟩
def RowW (σ : St) (es : Nat) (p : PV) (xs : List PV) : Prop := (p = .em ∧ xs = []) ∨ ∃ o g, p = .ob o g es 0 xs.length ∧ σ.m o g = some ⟨es, xs, true, true⟩ ∧ o < 2000000
theorem RowW.fz {es : Nat} {xs : List PV} (h : RowW σ es p xs) {d : Nat} (hx : xs.mapM (fz σ d) = some xs) : fz σ (d + 1) p = some (.sl xs) := by
  rcases h with ⟨rfl, rfl⟩ | ⟨o, g, rfl, h2, _⟩
  · rfl
  · rw [fz_ob, h2]
    simp [hx]
theorem RowW.lenP {es : Nat} {xs : List PV} (h : RowW σ es p xs) : lenP p = some xs.length := by
  rcases h with ⟨rfl, rfl⟩ | ⟨o, g, rfl, _⟩ <;> rfl
theorem RowW.ok {es : Nat} {xs : List PV} (h : RowW σ es p xs) : cellsOf p = [p] ∧ okc p = true := by
  rcases h with ⟨rfl, rfl⟩ | ⟨o, g, rfl, _⟩ <;> exact ⟨rfl, rfl⟩
theorem RowW.new {es : Nat} {xs : List PV} (h : RowW σ es p xs) (hF : Fresh σ) (s : Nat) (y : Obj) : RowW (σ.new s y) es p xs := by
  rcases h with ⟨rfl, rfl⟩ | ⟨o, g, rfl, h2, h3⟩
  · exact .inl ⟨rfl, rfl⟩
  · refine .inr ⟨o, g, rfl, ?_, h3⟩
    simp only [new_m]
    rw [if_neg (fun h => by rw [h.1, h.2, hF.none] at h2; cases h2)]
    exact h2
theorem RowW.put {es : Nat} {xs : List PV} (h : RowW σ es p xs) {o g : Nat} (ho : 2000000 ≤ o) (y : Option Obj) : RowW (σ.put o g y) es p xs := by
  rcases h with ⟨rfl, rfl⟩ | ⟨o', g', rfl, h2, h3⟩
  · exact .inl ⟨rfl, rfl⟩
  · exact .inr ⟨o', g', rfl, by simp only [put_m]; rw [if_neg (fun h => by omega)]; exact h2, h3⟩
theorem RowW.keep {es : Nat} {xs : List PV} (h : RowW σ es p xs) (hm : ∀ o g, o < 2000000 → g < σ.c o → σ'.m o g = σ.m o g) (hF : Fresh σ) : RowW σ' es p xs := by
  rcases h with ⟨rfl, rfl⟩ | ⟨o', g', rfl, h2, h3⟩
  · exact .inl ⟨rfl, rfl⟩
  · exact .inr ⟨o', g', rfl, by rw [hm _ _ h3 (hF _ _ (by rw [h2]; rfl))]; exact h2, h3⟩
theorem e_ins {k es by_ : Nat} (hk : env k = some (.prim (insF es by_))) {q e : PV} {xs : List PV} {i o2 g2 : Nat} (hw : RowW σ es q xs) (hi : i ≤ xs.length) (h2 : σ.m o2 g2 = some ⟨es, [e], true, true⟩) (hne : ∀ o g, q = .ob o g es 0 xs.length → ¬ (o = o2 ∧ g = g2)) (hok : okc e = true) (hl : (cellsOf e).length = es) (hb : (xs.length + 1) * by_ ≤ 70368744177664) (hF : Fresh σ) :
    ∃ r σ', EV env k [q, .sc (.int .i64 (i : Int)), .ob o2 g2 es 0 1] σ = some (r, σ') ∧ RowW σ' es r (xs.take i ++ e :: xs.drop i) ∧ Kp (2000000 ≤ ·) σ σ' := by
  have hall : (([e] : List PV).all fun y => okc y && (cellsOf y).length == es) = true := by simp [hok, hl]
  rw [EV_prim hk]
  rcases hw with ⟨rfl, rfl⟩ | ⟨o, g, rfl, h3, h4⟩
  · refine ⟨.ob 25 (σ.c 25) es 0 1, σ.new 25 ⟨es, [e], true, true⟩, ?_, .inr ⟨25, σ.c 25, ?_, ?_, by decide⟩, (Kp.refl hF).new _ _⟩
    · have hi0 : i = 0 := by simpa using hi
      subst hi0
      simp only [insF, h2]
      rw [if_pos ⟨trivial, trivial, trivial, by simp, trivial, trivial, by simp, hall⟩]
      rw [if_pos ⟨rfl, by simpa using hb⟩]
    · simp
    · simp [new_m]
  · have hg := hF _ _ (show (σ.m o g).isSome = true by rw [h3]; rfl)
    refine ⟨.ob 25 (σ.c 25) es 0 (xs.length + 1), (σ.put o g none).new 25 ⟨es, xs.take i ++ ([e] ++ xs.drop i), true, true⟩, ?_, .inr ⟨25, σ.c 25, ?_, ?_, by decide⟩, ((Kp.refl hF).put h3 (.inl (by omega)) _).new _ _⟩
    · simp only [insF, h2]
      rw [if_pos ⟨trivial, trivial, trivial, by simp, trivial, trivial, by simp, hall⟩]
      simp only [h3]
      rw [if_pos ⟨⟨trivial, trivial, trivial, trivial, trivial, trivial⟩, by omega, by omega, hne o g rfl, by simpa using hb⟩]
      simp
    · congr 1
      simp only [List.length_append, List.length_take, List.length_cons, List.length_drop]
      omega
    · simp [new_m, put_c]
theorem e_del {k es : Nat} (hk : env k = some (.prim (delF es))) {q : PV} {xs : List PV} {i : Nat} (hw : RowW σ es q xs) (hi : i < xs.length) (hF : Fresh σ) :
    ∃ r σ', EV env k [q, .sc (.int .i64 (i : Int)), .sc (.int .i64 ((i + 1 : Nat) : Int))] σ = some (r, σ') ∧ RowW σ' es r (xs.take i ++ xs.drop (i + 1)) ∧ Kp (2000000 ≤ ·) σ σ' := by
  rw [EV_prim hk]
  rcases hw with ⟨rfl, rfl⟩ | ⟨o, g, rfl, h3, h4⟩
  · simp at hi
  · refine ⟨.ob 26 (σ.c 26) es 0 (i + (xs.length - (i + 1))), (σ.put o g none).new 26 ⟨es, xs.take i ++ xs.drop (i + 1), true, true⟩, ?_, .inr ⟨26, σ.c 26, ?_, ?_, by decide⟩, ((Kp.refl hF).put h3 (.inl (by omega)) _).new _ _⟩
    · simp only [delF, h3]
      rw [if_pos ⟨⟨trivial, trivial, trivial, trivial, trivial, trivial⟩, by omega, by omega, by omega⟩]
      simp
    · congr 1
      simp only [List.length_append, List.length_take, List.length_drop]
      omega
    · simp [new_m, put_c]
theorem a277 (J : Has lja env) (D : Has ljd env) (O : Has ljb env) (G : Has ljf env) {l : List Fl} {f : Fl} (hw : RowW σ 3 p (fls l)) (hs : Srt l) (hl : l.length ≤ 1000) (hF : Fresh σ) :
    ∃ q σ', EV env 277 [p, fl f] σ = some (q, σ') ∧ RowW σ' 3 q (fls (putF l f)) ∧ Kp (2000000 ≤ ·) σ σ' := by
  have h266 := a266 D O hs (by omega) f.n
  have hln := fls_len l
  have hle := posF_le l f.n
  obtain ⟨ok1, ok2⟩ := hw.ok
  refine EV_wp' (σ := σ) (R := fun q τ => RowW τ 3 q (fls (putF l f)) ∧ Kp (2000000 ≤ ·) σ τ) (G (277, d277) (by simp [ljf])) rfl ?_
  unfold fl
  have k1 := (Kp.refl (P := (2000000 ≤ ·)) hF).new 2000003 ⟨3, [.agg [txt f.n, txt f.s, txt f.t]], true, true⟩
  have hw1 := hw.new hF 2000003 ⟨3, [.agg [txt f.n, txt f.s, txt f.t]], true, true⟩
  have hz1 := hw1.fz (fls_fz _ 9 l)
  (repeat' first
    | refine w_seq ?_ | refine w_rg ?_ | refine wo_nil ?_ | refine g_skU ?_ | refine g_skT ?_ | refine g_skF ?_
    | ((first | apply s_plain | apply s_void | apply s_guard | apply g_goT | apply g_goF); · simp only [go_sem, Nat.reduceEqDiff, Nat.reduceAdd, Nat.reduceLeDiff, ok1, ok2, hz1, h266]; (first | done | rfl))
    | ((first | apply g_T | apply g_F | apply g_gT | apply g_gF); · intro q1_; (first | intro q2_ | have q2_ := q1_); simp only [go_sem, Nat.reduceEqDiff, Nat.reduceAdd, Nat.reduceLeDiff, ok1, ok2, hz1, h266, q1_, q2_]; (first | done | rfl))
    | fail
    )
  cases hh : hasF l f.n with
  | true =>
    obtain ⟨f0, q1, q2, q3⟩ := pos_at hs hh
    have hlt := (List.getElem?_eq_some_iff.1 q1).1
    rcases hw with ⟨rfl, hx⟩ | ⟨o, g, rfl, h3, h4⟩
    · have h0 : l.length = 0 := by rw [← hln, hx]; rfl
      omega
    · have e1 : (0 : Int) ≤ ((posF l f.n : Nat) : Int) ∧ ((posF l f.n : Nat) : Int) < ((fls l).length : Int) := by rw [hln]; omega
      have hne : ¬ (o = 2000003 ∧ g = σ.c 2000003) := fun h => by omega
      have hm1 : (σ.new 2000003 ⟨3, [.agg [txt f.n, txt f.s, txt f.t]], true, true⟩).m o g = some ⟨3, fls l, true, true⟩ := by simp only [new_m]; rw [if_neg hne]; exact h3
      have hlt' : posF l f.n < (fls l).length := by rw [hln]; exact hlt
      (repeat' first
    | refine w_seq ?_ | refine w_rg ?_ | refine wo_nil ?_ | refine g_skU ?_ | refine g_skT ?_ | refine g_skF ?_
    | ((first | apply s_plain | apply s_void | apply s_guard | apply g_goT | apply g_goF); · simp only [go_sem, Nat.reduceEqDiff, Nat.reduceAdd, Nat.reduceLeDiff, e1, Int.toNat_natCast, hm1, hlt', List.set_cons_succ]; (first | done | rfl))
    | ((first | apply g_T | apply g_F | apply g_gT | apply g_gF); · intro q1_; (first | intro q2_ | have q2_ := q1_); simp only [go_sem, Nat.reduceEqDiff, Nat.reduceAdd, Nat.reduceLeDiff, e1, Int.toNat_natCast, hm1, hlt', List.set_cons_succ, q1_, q2_]; (first | done | rfl))
    | (apply w_condX; · simp only [go_sem, Nat.reduceEqDiff, Nat.reduceAdd, Nat.reduceLeDiff, e1, Int.toNat_natCast, hm1, hlt', List.set_cons_succ]; (first | done | rfl)); (first | refine wcd_T ?_ | refine wcd_F ?_)
    | refine w_skip ?_ | refine w_exit ?_ | refine w_ret ?_
    | fail
    )
      have e : (fls l).modify (posF l f.n) (fun _ => PV.agg [txt f.n, txt f.s, txt f.t]) = fls (putF l f) := by
        rw [List.modify_eq_take_cons_drop hlt']
        unfold putF
        rw [hh, if_pos rfl]
        simp only [fls, List.map_append, List.map_cons, List.map_take, List.map_drop]
        rfl
      have el : (fls (putF l f)).length = (fls l).length := by rw [← e, List.length_modify]
      refine ⟨.inr rfl, .ob o g 3 0 (fls l).length, by simp only [go_sem, Nat.reduceEqDiff, Nat.reduceAdd, Nat.reduceLeDiff, retOf, resOf], .inr ⟨o, g, by rw [el], ?_, h4⟩, k1.put hm1 (.inl (by omega)) _⟩
      simp only [put_m]
      rw [if_pos ⟨trivial, trivial⟩, ← e]
  | false =>
    have e : (fls l).take (posF l f.n) ++ fl f :: (fls l).drop (posF l f.n) = fls (putF l f) := by
      unfold putF
      rw [hh, if_neg (by decide)]
      simp only [fls, List.map_append, List.map_cons, List.map_take, List.map_drop]
    (repeat' first
    | refine w_seq ?_ | refine w_rg ?_ | refine wo_nil ?_ | refine g_skU ?_ | refine g_skT ?_ | refine g_skF ?_
    | ((first | apply s_plain | apply s_void | apply s_guard | apply g_goT | apply g_goF); · simp only [go_sem, Nat.reduceEqDiff, Nat.reduceAdd, Nat.reduceLeDiff, ok1, ok2, List.set_cons_succ]; (first | done | rfl))
    | ((first | apply g_T | apply g_F | apply g_gT | apply g_gF); · intro q1_; (first | intro q2_ | have q2_ := q1_); simp only [go_sem, Nat.reduceEqDiff, Nat.reduceAdd, Nat.reduceLeDiff, ok1, ok2, List.set_cons_succ, q1_, q2_]; (first | done | rfl))
    | (apply w_condX; · simp only [go_sem, Nat.reduceEqDiff, Nat.reduceAdd, Nat.reduceLeDiff, ok1, ok2, List.set_cons_succ]; (first | done | rfl)); (first | refine wcd_T ?_ | refine wcd_F ?_)
    | refine w_skip ?_ | refine w_exit ?_ | refine w_ret ?_
    | fail
    )
    have k2 := k1.new 23 ⟨3, [.agg [txt f.n, txt f.s, txt f.t]], true, true⟩
    have hw2 := hw1.new k1.f 23 ⟨3, [.agg [txt f.n, txt f.s, txt f.t]], true, true⟩
    obtain ⟨r, σ2, h1, h2, h3⟩ := e_ins (J (281, .prim (insF 3 48)) (by simp [lja])) (e := fl f) (o2 := 23) (g2 := σ.c 23) hw2 (i := posF l f.n) (by rw [hln]; exact hle) (by simp [new_m, new_c, fl])
      (fun o g hq h => by
        rcases hw with ⟨rfl, _⟩ | ⟨o', g', rfl, h3, h4⟩
        · cases hq
        · simp only [PV.ob.injEq] at hq
          obtain ⟨rfl, rfl, _⟩ := hq
          rw [h.1, h.2, hF.none] at h3
          cases h3) rfl rfl (by rw [hln]; omega) k2.f
    refine s_plain (v := r) (σ' := σ2) (by simp only [go_sem, Nat.reduceEqDiff, Nat.reduceAdd, Nat.reduceLeDiff, List.set_cons_succ]; exact h1) ?_
    (repeat' first
    | refine w_seq ?_ | refine w_rg ?_ | refine wo_nil ?_ | refine g_skU ?_ | refine g_skT ?_ | refine g_skF ?_
    | ((first | apply s_plain | apply s_void | apply s_guard | apply g_goT | apply g_goF); · simp only [go_sem, Nat.reduceEqDiff, Nat.reduceAdd, Nat.reduceLeDiff]; (first | done | rfl))
    | ((first | apply g_T | apply g_F | apply g_gT | apply g_gF); · intro q1_; (first | intro q2_ | have q2_ := q1_); simp only [go_sem, Nat.reduceEqDiff, Nat.reduceAdd, Nat.reduceLeDiff, q1_, q2_]; (first | done | rfl))
    | (apply w_condX; · simp only [go_sem, Nat.reduceEqDiff, Nat.reduceAdd, Nat.reduceLeDiff]; (first | done | rfl)); (first | refine wcd_T ?_ | refine wcd_F ?_)
    | refine w_skip ?_ | refine w_exit ?_ | refine w_ret ?_
    | fail
    )
    exact ⟨.inr rfl, r, by simp only [go_sem, Nat.reduceEqDiff, Nat.reduceAdd, Nat.reduceLeDiff, retOf, resOf], by rw [← e]; exact h2, k2.trans h3⟩
end

end
end Go.Proofs.YtemoboghbdcjkaaDoorPv
