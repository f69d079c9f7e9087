/-
Own texts of the proof, merged: part 1.
-/
import Derived.Test.YtemoboghbdcjkaaDoorPvY
import Derived.Test.YtemoboghbdcjkaaDoorPvPc
import Derived.Test.YtemoboghbdcjkaaDoorPvU
import Derived.Lib.CutLaws
import Derived.Lib.IndexLaws
import Derived.Test.YtemoboghbdcjkaaDoorPvL
import Derived.HandedShaped
namespace Go.Proofs.YtemoboghbdcjkaaDoorPv
open Go
set_option linter.unusedSimpArgs false
set_option linter.unusedVariables false
set_option maxHeartbeats 4000000
set_option maxRecDepth 8000
section
def stepC (c : Nat) : Nat := if c % 2 = 1 then (c / 2) ^^^ 3988292384 else c / 2
def stepsC : Nat → Nat → Nat
  | 0, c => c
  | k + 1, c => stepC (stepsC k c)
def onC (c : Nat) (b : UInt8) : Nat := stepsC 8 (c ^^^ b.toNat)
def crcC (l : List UInt8) : Nat := l.foldl onC 4294967295
theorem stepC_lt {c : Nat} (h : c < 4294967296) : stepC c < 4294967296 := by
  unfold stepC
  split
  · exact Nat.xor_lt_two_pow (n := 32) (by omega) (by decide)
  · omega
theorem stepsC_lt {c : Nat} (h : c < 4294967296) : ∀ k, stepsC k c < 4294967296
  | 0 => h
  | k + 1 => stepC_lt (stepsC_lt h k)
theorem onC_lt {c : Nat} (h : c < 4294967296) (b : UInt8) : onC c b < 4294967296 :=
  stepsC_lt (Nat.xor_lt_two_pow (n := 32) h (Nat.lt_of_lt_of_le b.toNat_lt (by decide))) 8
theorem fold_lt : ∀ (l : List UInt8) (c : Nat), c < 4294967296 → l.foldl onC c < 4294967296
  | [], c, h => h
  | b :: l, c, h => fold_lt l (onC c b) (onC_lt h b)
theorem crcC_lt (l : List UInt8) : crcC l < 4294967296 := fold_lt l _ (by decide)
theorem crcC_snoc (l : List UInt8) (b : UInt8) : crcC (l ++ [b]) = onC (crcC l) b := by
  unfold crcC
  rw [List.foldl_append]; rfl
theorem turn_all {c : Nat} (h : c < 4294967296) : c ^^^ 4294967295 = 4294967295 - c := by
  apply Nat.eq_of_testBit_eq
  intro i
  have e1 : (4294967295 - c).testBit i = (decide (i < 32) && !c.testBit i) := by
    have := Nat.testBit_two_pow_sub_succ (n := 32) h i
    rwa [show (2 : Nat) ^ 32 - (c + 1) = 4294967295 - c by omega] at this
  rw [e1, Nat.testBit_xor, show (4294967295 : Nat) = 2 ^ 32 - 1 from rfl, Nat.testBit_two_pow_sub_one]
  by_cases hi : i < 32
  · simp [hi]
  · have : c.testBit i = false := Nat.testBit_lt_two_pow (Nat.lt_of_lt_of_le (show c < 2 ^ 32 from h) (Nat.pow_le_pow_right (by decide) (Nat.le_of_not_lt hi)))
    simp [hi, this]

def encN (n : Nat) : List UInt8 := if h : n < 128 then [UInt8.ofNat n] else UInt8.ofNat (n % 128 + 128) :: encN (n / 128)
termination_by n
decreasing_by omega
def rdN (short long syn : Int) : List UInt8 → Nat → Nat → Nat × Nat × Int
  | l, i, n => if i = 9 then (0, 0, long) else match l with
    | [] => (0, 0, short)
    | c :: r => if c.toNat ≥ 128 then rdN short long syn r (i + 1) (n + c.toNat % 128 * 128 ^ i) else if c.toNat = 0 ∧ i > 0 then (0, 0, syn) else (n + c.toNat % 128 * 128 ^ i, i + 1, 0)
theorem ofNat_small {n : Nat} (h : n < 256) : (UInt8.ofNat n).toNat = n := by
  rw [UInt8.toNat_ofNat']; omega
theorem rdN_ok {a b c : Int} (ha : a ≠ 0) (hb : b ≠ 0) (hc : c ≠ 0) : ∀ (l : List UInt8) (i n : Nat) (v k : Nat), i ≤ 9 → rdN a b c l i n = (v, k, 0) → ∃ q, v = n + q * 128 ^ i ∧ i < k ∧ k ≤ 9 ∧ encN q = l.take (k - i) ∧ k - i ≤ l.length ∧ (i > 0 → q ≠ 0)
  | l, i, n, v, k, hi9, h => by
    unfold rdN at h
    split at h
    · simp only [Prod.mk.injEq] at h; exact absurd h.2.2 hb
    · rename_i h9
      split at h
      · simp only [Prod.mk.injEq] at h; exact absurd h.2.2 ha
      · rename_i x r
        split at h
        · rename_i hx
          obtain ⟨q, h1, h2, h3, h4, h5, h6⟩ := rdN_ok ha hb hc r (i + 1) _ v k (by omega) h
          have hq := h6 (by omega)
          have hxl := x.toNat_lt
          refine ⟨x.toNat % 128 + 128 * q, ?_, by omega, h3, ?_, ?_, fun _ => by omega⟩
          · rw [h1, Nat.pow_succ, Nat.add_mul, Nat.mul_comm 128 q, Nat.mul_assoc, Nat.mul_comm 128 (128 ^ i), Nat.add_assoc]
          · rw [encN, dif_neg (by omega)]
            have e1 : (x.toNat % 128 + 128 * q) % 128 + 128 = x.toNat := by omega
            have e2 : (x.toNat % 128 + 128 * q) / 128 = q := by omega
            rw [e1, e2, h4, show k - i = (k - (i + 1)) + 1 by omega, List.take_succ_cons, UInt8.ofNat_toNat]
          · simp only [List.length_cons]; omega
        · rename_i hx
          split at h
          · simp only [Prod.mk.injEq] at h; exact absurd h.2.2 hc
          · rename_i hz
            simp only [Prod.mk.injEq, and_true] at h
            obtain ⟨rfl, rfl⟩ := h
            refine ⟨x.toNat % 128, rfl, by omega, by omega, ?_, ?_, fun h0 => by omega⟩
            · rw [encN, dif_pos (by omega), show x.toNat % 128 = x.toNat by omega, show i + 1 - i = 1 by omega, UInt8.ofNat_toNat]
              rfl
            · simp only [List.length_cons]; omega

def chkB (d : List UInt8) : List UInt8 :=
  [UInt8.ofNat ((4294967295 - crcC d) % 256), UInt8.ofNat ((4294967295 - crcC d) / 256 % 256), UInt8.ofNat ((4294967295 - crcC d) / 65536 % 256), UInt8.ofNat ((4294967295 - crcC d) / 16777216)]
theorem chkB_len (d : List UInt8) : (chkB d).length = 4 := rfl
def recB (d : List UInt8) : List UInt8 := encN d.length ++ d ++ chkB d
def headN (s : List UInt8) : Nat × Nat × Int := rdN 3 2 6 s 0 0
theorem headN_ok {s : List UInt8} {v k : Nat} (h : headN s = (v, k, 0)) : 0 < k ∧ k ≤ 9 ∧ encN v = s.take k ∧ k ≤ s.length := by
  obtain ⟨q, h1, h2, h3, h4, h5, _⟩ := rdN_ok (by decide) (by decide) (by decide) s 0 0 v k (by decide) h
  simp only [Nat.zero_add, Nat.pow_zero, Nat.mul_one, Nat.sub_zero] at h1 h4 h5
  subst h1
  exact ⟨h2, h3, h4, h5⟩
def scanF : Nat → List UInt8 → List (List UInt8)
  | 0, _ => []
  | f + 1, s => if s = [] then [] else
    if (headN s).2.2 ≠ 0 ∨ (headN s).1 > 4096 ∨ (headN s).2.1 + (headN s).1 + 4 > s.length then [] else
    if (s.drop ((headN s).2.1 + (headN s).1)).take 4 ≠ chkB ((s.drop (headN s).2.1).take (headN s).1) then [] else
    (s.drop (headN s).2.1).take (headN s).1 :: scanF f (s.drop ((headN s).2.1 + (headN s).1 + 4))
def scanS (s : List UInt8) : List (List UInt8) := scanF s.length s
theorem rec_iff {s : List UInt8} {v k : Nat} (h : headN s = (v, k, 0)) (hl : k + v + 4 ≤ s.length) : s.take (k + v + 4) = recB ((s.drop k).take v) ↔ (s.drop (k + v)).take 4 = chkB ((s.drop k).take v) := by
  obtain ⟨h1, h2, h3, h4⟩ := headN_ok h
  have hdl : ((s.drop k).take v).length = v := by rw [List.length_take, List.length_drop]; omega
  have e : s.take (k + v + 4) = s.take k ++ (s.drop k).take v ++ (s.drop (k + v)).take 4 := by
    rw [List.take_add, List.take_add]
  unfold recB
  rw [e, hdl, h3]
  constructor
  · intro hq; exact List.append_cancel_left hq
  · intro hq; rw [hq]
theorem scanF_pre : ∀ (f : Nat) (s : List UInt8), ∃ t, s = (scanF f s).flatMap recB ++ t
  | 0, s => ⟨s, rfl⟩
  | f + 1, s => by
    unfold scanF
    split
    · exact ⟨s, rfl⟩
    · split
      · exact ⟨s, rfl⟩
      · rename_i h1
        split
        · exact ⟨s, rfl⟩
        · rename_i h2
          rcases hq : headN s with ⟨v, k, e⟩
          rw [hq] at h1 h2
          simp only [not_or, Decidable.not_not, Nat.not_lt] at h1 h2
          obtain ⟨he, hv, hl⟩ := h1
          try simp only at he hv hl h2
          subst he
          have hr := (rec_iff hq (by omega)).2 h2
          obtain ⟨t, ht⟩ := scanF_pre f (s.drop (k + v + 4))
          refine ⟨t, ?_⟩
          rw [List.flatMap_cons, List.append_assoc, ← ht, ← hr, List.take_append_drop]

end
section
attribute [local go_sem ↓] e_mv e_pick e_bin e_eqs e_beq e_un e_cvi e_str e_s2b e_b2s e_box e_build e_bsl e_ld e_st e_nck e_mkf e_slcS e_slcL e_fa e_fld e_ia e_iaa e_ix e_ixa e_ext e_lenS e_lenL e_mnmx e_app e_appb e_bbx e_msl e_clr e_call e_callv e_icall e_slcA e_mkm e_mput e_mget e_mlen e_mdel pa_t pa_c pa_f slcSP_str hiOf_some hiOf_none loOf_some loOf_none set_eq set_ne
attribute [local go_sem] pv pv1 simple frOf_0 frOf_1 frOf_2 frOf_3 frOf_4 frOf_5 ne_eq not_false_eq_true if_true Bool.false_eq_true if_false pbin punary Option.map_some Option.bind_some pick_and pick_or opt_true Bool.true_and Bool.and_self Bool.and_true Bool.true_or Bool.false_or Bool.not_true Bool.not_false callE pcall_eq List.map_cons List.map_nil List.append_nil List.nil_append List.cons_append mapM_cons' mapM_nil' dep_eq fz_sc fz_sl fz_em fz_fn fz_fp fz_agg fz_tu fz_bx fz_ob Nat.lt_irrefl Nat.zero_lt_one Nat.lt_add_one flat clL cl Bool.or_true okc_sc okc_em okc_sl okc_ob okc_bx okc_fp okc_fn okc_agg okc_ifc cells_agg cells_sc cells_sl cells_em cells_ob cells_fn cells_bx cells_fp List.length_cons List.length_nil Nat.zero_add and_self true_and and_true new_m new_c put_m put_c nil_m nil_c nil_mm new_mm put_mm newM_m newM_c newM_mm putM_m putM_c putM_mm mkeyV_1 mkeyV_2 mapAt_eq deref List.getElem?_cons_zero List.getElem?_cons_succ List.drop_zero List.drop_succ_cons List.take_succ_cons List.take_zero Nat.le_refl false_and and_false decide_true decide_false lenP_em lenP_nil lenP_sl lenP_ob Int.ofNat_zero
def d85 : Def := (.code 2 [.tmp 4] (.seq (.rg false [⟨.some 4, .none, .mv (.c (.int .i64 0))⟩]) (.seq (.seq (.rg false [⟨.some 6, .none, .mv (.t 0)⟩, ⟨.some 7, .none, .lenL (.t 6)⟩, ⟨.some 8, .none, .mv (.c (.int .i64 0))⟩]) (.block 0 (.loop (.seq (.rg false [⟨.some 9, .none, .bin .lss (.t 8) (.t 7)⟩]) (.seq (.cond (.t 9) .skip (.exit 0)) (.seq (.block 1 (.seq (.rg false [⟨.some 10, .none, .mv (.t 8)⟩, ⟨.some 5, .none, .mv (.t 10)⟩]) (.seq (.rg false [⟨.some 11, .none, .mv (.t 1)⟩, ⟨.some 12, .none, .mv (.t 0)⟩, ⟨.some 13, .none, .mv (.t 5)⟩, ⟨.some 14, .none, .ia 1 (.t 12) (.t 13)⟩, ⟨.some 15, .none, .ld .none (.t 14)⟩, ⟨.some 16, .none, .callv (.t 11) .pure [.t 15]⟩]) (.cond (.t 16) (.seq (.rg false [⟨.some 17, .none, .mv (.t 5)⟩, ⟨.some 4, .none, .mv (.t 17)⟩]) .ret) .skip)))) (.rg false [⟨.some 18, .none, .bin .add (.t 8) (.c (.int .i64 1))⟩, ⟨.some 8, .none, .mv (.t 18)⟩]))))))) (.seq (.rg false [⟨.some 4, .none, .mv (.c (.int .i64 (-1)))⟩]) .ret))))
def d67 : Def := (.code 2 [.tmp 4] (.seq (.rg false [⟨.some 4, .none, .mv (.c (.bool false))⟩]) (.seq (.rg false [⟨.some 5, .none, .mv (.t 0)⟩, ⟨.some 6, .none, .mv (.t 1)⟩, ⟨.some 7, .none, .call 85 .pure [.t 5, .t 6]⟩, ⟨.some 8, .none, .bin .geq (.t 7) (.c (.int .i64 0))⟩, ⟨.some 4, .none, .mv (.t 8)⟩]) .ret)))
def d66 : Def := (.code 1 [.tmp 2] (.seq (.rg false [⟨.some 2, .none, .mv (.c (.bool false))⟩]) (.seq (.rg false [⟨.some 3, .none, .mv (.t 0)⟩, ⟨.some 4, .none, .bin .lss (.t 3) (.c (.int .u8 97))⟩, ⟨.some 5, .none, .mv (.t 4)⟩, ⟨.some 6, .some (5, false), .mv (.t 0)⟩, ⟨.some 7, .some (5, false), .bin .gtr (.t 6) (.c (.int .u8 122))⟩, ⟨.some 8, .none, .pick (.t 5) (.c (.bool true)) (.t 7)⟩, ⟨.some 9, .none, .mv (.t 8)⟩, ⟨.some 10, .some (9, true), .mv (.t 0)⟩, ⟨.some 11, .some (9, true), .bin .lss (.t 10) (.c (.int .u8 48))⟩, ⟨.some 12, .some (9, true), .mv (.t 11)⟩, ⟨.some 13, .some (12, false), .mv (.t 0)⟩, ⟨.some 14, .some (12, false), .bin .gtr (.t 13) (.c (.int .u8 57))⟩, ⟨.some 15, .some (9, true), .pick (.t 12) (.c (.bool true)) (.t 14)⟩, ⟨.some 16, .none, .pick (.t 9) (.t 15) (.c (.bool false))⟩, ⟨.some 17, .none, .mv (.t 16)⟩, ⟨.some 18, .some (17, true), .mv (.t 0)⟩, ⟨.some 19, .some (17, true), .bin .neq (.t 18) (.c (.int .u8 95))⟩, ⟨.some 20, .none, .pick (.t 17) (.t 19) (.c (.bool false))⟩, ⟨.some 2, .none, .mv (.t 20)⟩]) .ret)))
def d49 : Def := (.code 1 [.tmp 2] (.seq (.rg false [⟨.some 2, .none, .mv (.c (.bool false))⟩]) (.seq (.rg false [⟨.some 3, .none, .mv (.f 66)⟩]) (.seq (.rg false [⟨.some 4, .none, .mv (.t 0)⟩, ⟨.some 5, .none, .bin .neq (.t 4) (.c (.string ⟨#[]⟩))⟩, ⟨.some 6, .none, .mv (.t 5)⟩, ⟨.some 7, .some (6, true), .mv (.t 0)⟩, ⟨.some 8, .some (6, true), .lenS (.t 7)⟩, ⟨.some 9, .some (6, true), .bin .leq (.t 8) (.c (.int .i64 64))⟩, ⟨.some 10, .none, .pick (.t 6) (.t 9) (.c (.bool false))⟩, ⟨.some 11, .none, .mv (.t 10)⟩, ⟨.some 12, .some (11, true), .mv (.t 0)⟩, ⟨.some 13, .some (11, true), .s2b (.t 12)⟩, ⟨.some 14, .some (11, true), .mv (.t 3)⟩, ⟨.some 15, .some (11, true), .call 67 .pure [.t 13, .t 14]⟩, ⟨.some 16, .some (11, true), .un .not (.t 15)⟩, ⟨.some 17, .none, .pick (.t 11) (.t 16) (.c (.bool false))⟩, ⟨.some 2, .none, .mv (.t 17)⟩]) .ret))))
def d138 : Def := (.code 1 [.tmp 2] (.seq (.rg false [⟨.some 2, .none, .mv (.c (.bool false))⟩]) (.seq (.rg false [⟨.some 3, .none, .mv (.t 0)⟩, ⟨.some 4, .none, .bin .geq (.t 3) (.c (.int .u8 97))⟩, ⟨.some 5, .none, .mv (.t 4)⟩, ⟨.some 6, .some (5, true), .mv (.t 0)⟩, ⟨.some 7, .some (5, true), .bin .leq (.t 6) (.c (.int .u8 122))⟩, ⟨.some 8, .none, .pick (.t 5) (.t 7) (.c (.bool false))⟩, ⟨.some 9, .none, .mv (.t 8)⟩, ⟨.some 10, .some (9, false), .mv (.t 0)⟩, ⟨.some 11, .some (9, false), .bin .geq (.t 10) (.c (.int .u8 65))⟩, ⟨.some 12, .some (9, false), .mv (.t 11)⟩, ⟨.some 13, .some (12, true), .mv (.t 0)⟩, ⟨.some 14, .some (12, true), .bin .leq (.t 13) (.c (.int .u8 90))⟩, ⟨.some 15, .some (9, false), .pick (.t 12) (.t 14) (.c (.bool false))⟩, ⟨.some 16, .none, .pick (.t 9) (.c (.bool true)) (.t 15)⟩, ⟨.some 17, .none, .mv (.t 16)⟩, ⟨.some 18, .some (17, false), .mv (.t 0)⟩, ⟨.some 19, .some (17, false), .bin .eql (.t 18) (.c (.int .u8 95))⟩, ⟨.some 20, .none, .pick (.t 17) (.c (.bool true)) (.t 19)⟩, ⟨.some 2, .none, .mv (.t 20)⟩]) .ret)))
def d139 : Def := (.code 1 [.tmp 2] (.seq (.rg false [⟨.some 2, .none, .mv (.c (.bool false))⟩]) (.seq (.rg false [⟨.some 3, .none, .mv (.t 0)⟩, ⟨.some 4, .none, .bin .lss (.t 3) (.c (.int .u8 32))⟩, ⟨.some 5, .none, .mv (.t 4)⟩, ⟨.some 6, .some (5, false), .mv (.t 0)⟩, ⟨.some 7, .some (5, false), .bin .gtr (.t 6) (.c (.int .u8 126))⟩, ⟨.some 8, .none, .pick (.t 5) (.c (.bool true)) (.t 7)⟩, ⟨.some 2, .none, .mv (.t 8)⟩]) .ret)))
def d130 : Def := (.code 1 [.tmp 2] (.seq (.rg false [⟨.some 2, .none, .mv (.c (.bool false))⟩]) (.seq (.seq (.rg false [⟨.some 5, .none, .mv (.t 0)⟩, ⟨.some 6, .none, .lenS (.t 5)⟩, ⟨.some 7, .none, .mv (.c (.int .i64 0))⟩]) (.block 0 (.loop (.seq (.rg false [⟨.some 8, .none, .bin .lss (.t 7) (.t 6)⟩]) (.seq (.cond (.t 8) .skip (.exit 0)) (.seq (.block 1 (.seq (.rg false [⟨.some 9, .none, .mv (.t 7)⟩, ⟨.some 3, .none, .mv (.t 9)⟩]) (.seq (.rg false [⟨.some 10, .none, .mv (.t 0)⟩, ⟨.some 11, .none, .mv (.t 3)⟩, ⟨.some 12, .none, .ix (.t 10) (.t 11)⟩, ⟨.some 4, .none, .mv (.t 12)⟩]) (.seq (.rg false [⟨.some 13, .none, .mv (.t 4)⟩, ⟨.some 14, .none, .call 138 .pure [.t 13]⟩, ⟨.some 15, .none, .un .not (.t 14)⟩, ⟨.some 16, .none, .mv (.t 15)⟩, ⟨.some 17, .some (16, true), .mv (.t 3)⟩, ⟨.some 18, .some (16, true), .bin .eql (.t 17) (.c (.int .i64 0))⟩, ⟨.some 19, .some (16, true), .mv (.t 18)⟩, ⟨.some 20, .some (19, false), .mv (.t 4)⟩, ⟨.some 21, .some (19, false), .bin .lss (.t 20) (.c (.int .u8 48))⟩, ⟨.some 22, .some (16, true), .pick (.t 19) (.c (.bool true)) (.t 21)⟩, ⟨.some 23, .some (16, true), .mv (.t 22)⟩, ⟨.some 24, .some (23, false), .mv (.t 4)⟩, ⟨.some 25, .some (23, false), .bin .gtr (.t 24) (.c (.int .u8 57))⟩, ⟨.some 26, .some (16, true), .pick (.t 23) (.c (.bool true)) (.t 25)⟩, ⟨.some 27, .none, .pick (.t 16) (.t 26) (.c (.bool false))⟩]) (.cond (.t 27) (.seq (.rg false [⟨.some 2, .none, .mv (.c (.bool false))⟩]) .ret) .skip))))) (.rg false [⟨.some 28, .none, .bin .add (.t 7) (.c (.int .i64 1))⟩, ⟨.some 7, .none, .mv (.t 28)⟩]))))))) (.seq (.rg false [⟨.some 29, .none, .mv (.t 0)⟩, ⟨.some 30, .none, .bin .neq (.t 29) (.c (.string ⟨#[]⟩))⟩, ⟨.some 31, .none, .mv (.t 30)⟩, ⟨.some 32, .some (31, true), .mv (.t 0)⟩, ⟨.some 33, .some (31, true), .lenS (.t 32)⟩, ⟨.some 34, .some (31, true), .bin .leq (.t 33) (.c (.int .i64 64))⟩, ⟨.some 35, .none, .pick (.t 31) (.t 34) (.c (.bool false))⟩, ⟨.some 2, .none, .mv (.t 35)⟩]) .ret))))
def d131 : Def := (.code 1 [.tmp 2] (.seq (.rg false [⟨.some 2, .none, .mv (.c (.bool false))⟩]) (.seq (.rg false [⟨.some 3, .none, .mv (.t 0)⟩, ⟨.some 4, .none, .bin .neq (.t 3) (.c (.string ⟨#[]⟩))⟩, ⟨.some 5, .none, .mv (.t 4)⟩, ⟨.some 6, .some (5, true), .mv (.t 0)⟩, ⟨.some 7, .some (5, true), .lenS (.t 6)⟩, ⟨.some 8, .some (5, true), .bin .leq (.t 7) (.c (.int .i64 64))⟩, ⟨.some 9, .none, .pick (.t 5) (.t 8) (.c (.bool false))⟩, ⟨.some 10, .none, .mv (.t 9)⟩, ⟨.some 11, .some (10, true), .mv (.t 0)⟩, ⟨.some 12, .some (10, true), .s2b (.t 11)⟩, ⟨.some 13, .some (10, true), .call 67 .pure [.t 12, .f 139]⟩, ⟨.some 14, .some (10, true), .un .not (.t 13)⟩, ⟨.some 15, .none, .pick (.t 10) (.t 14) (.c (.bool false))⟩, ⟨.some 2, .none, .mv (.t 15)⟩]) .ret)))
def la0 : List (Nat × Def) := [(85, d85), (67, d67), (138, d138), (139, d139), (130, d130), (131, d131)]
def law : List (Nat × Def) := [(85, d85), (67, d67), (66, d66), (49, d49)]
def lax : List (Nat × Def) := [(85, d85), (67, d67)]
def Has (l : List (Nat × Def)) (env : Nat → Option Def) : Prop := ∀ p ∈ l, env p.1 = some p.2
section
variable {env : Nat → Option Def} {fr : Fr} {σ : St} {K : Fr → St → Prop}
theorem law_lax (H : Has law env) : Has lax env := fun p hp => H p (by
  simp only [lax, List.mem_cons, List.mem_nil_iff, or_false] at hp
  rcases hp with rfl | rfl <;> simp [law])
theorem a66 (H : Has law env) (c : Int) : AV env 66 [.sc (.int .u8 c)] = some (.sc (.bool ((decide (c < 97) || decide (c > 122)) && (decide (c < 48) || decide (c > 57)) && (c != 95)))) := by
  refine AV_wp (H (66, d66) (by simp [law])) rfl ?_
  (repeat' first
    | refine w_seq ?_ | refine w_rg ?_ | refine wo_nil ?_ | refine g_skU ?_ | refine g_skT ?_ | refine g_skF ?_
    | ((first | apply s_plain | apply s_void | apply s_guard | apply g_goT | apply g_goF); · simp only [go_sem, Nat.reduceEqDiff, Nat.reduceAdd, Nat.reduceLeDiff]; (first | done | rfl))
    | ((first | apply g_T | apply g_F | apply g_gT | apply g_gF); · intro q1_; (first | intro q2_ | have q2_ := q1_); simp only [go_sem, Nat.reduceEqDiff, Nat.reduceAdd, Nat.reduceLeDiff, q1_, q2_]; (first | done | rfl))
    | (apply w_condX; · simp only [go_sem, Nat.reduceEqDiff, Nat.reduceAdd, Nat.reduceLeDiff]; (first | done | rfl)); (first | refine wcd_T ?_ | refine wcd_F ?_)
    | refine w_skip ?_ | refine w_exit ?_ | refine w_ret ?_
    | fail
    )
  exact ⟨.inr rfl, by simp only [go_sem, Nat.reduceEqDiff, Nat.reduceAdd, Nat.reduceLeDiff, retOf, resOf]⟩
theorem a138 (H : Has la0 env) (c : Int) : AV env 138 [.sc (.int .u8 c)] = some (.sc (.bool ((decide (c ≥ 97) && decide (c ≤ 122)) || (decide (c ≥ 65) && decide (c ≤ 90)) || (c == 95)))) := by
  refine AV_wp (H (138, d138) (by simp [la0])) rfl ?_
  (repeat' first
    | refine w_seq ?_ | refine w_rg ?_ | refine wo_nil ?_ | refine g_skU ?_ | refine g_skT ?_ | refine g_skF ?_
    | ((first | apply s_plain | apply s_void | apply s_guard | apply g_goT | apply g_goF); · simp only [go_sem, Nat.reduceEqDiff, Nat.reduceAdd, Nat.reduceLeDiff]; (first | done | rfl))
    | ((first | apply g_T | apply g_F | apply g_gT | apply g_gF); · intro q1_; (first | intro q2_ | have q2_ := q1_); simp only [go_sem, Nat.reduceEqDiff, Nat.reduceAdd, Nat.reduceLeDiff, q1_, q2_]; (first | done | rfl))
    | (apply w_condX; · simp only [go_sem, Nat.reduceEqDiff, Nat.reduceAdd, Nat.reduceLeDiff]; (first | done | rfl)); (first | refine wcd_T ?_ | refine wcd_F ?_)
    | refine w_skip ?_ | refine w_exit ?_ | refine w_ret ?_
    | fail
    )
  exact ⟨.inr rfl, by simp only [go_sem, Nat.reduceEqDiff, Nat.reduceAdd, Nat.reduceLeDiff, retOf, resOf]⟩
theorem a139 (H : Has la0 env) (c : Int) : AV env 139 [.sc (.int .u8 c)] = some (.sc (.bool (decide (c < 32) || decide (c > 126)))) := by
  refine AV_wp (H (139, d139) (by simp [la0])) rfl ?_
  (repeat' first
    | refine w_seq ?_ | refine w_rg ?_ | refine wo_nil ?_ | refine g_skU ?_ | refine g_skT ?_ | refine g_skF ?_
    | ((first | apply s_plain | apply s_void | apply s_guard | apply g_goT | apply g_goF); · simp only [go_sem, Nat.reduceEqDiff, Nat.reduceAdd, Nat.reduceLeDiff]; (first | done | rfl))
    | ((first | apply g_T | apply g_F | apply g_gT | apply g_gF); · intro q1_; (first | intro q2_ | have q2_ := q1_); simp only [go_sem, Nat.reduceEqDiff, Nat.reduceAdd, Nat.reduceLeDiff, q1_, q2_]; (first | done | rfl))
    | (apply w_condX; · simp only [go_sem, Nat.reduceEqDiff, Nat.reduceAdd, Nat.reduceLeDiff]; (first | done | rfl)); (first | refine wcd_T ?_ | refine wcd_F ?_)
    | refine w_skip ?_ | refine w_exit ?_ | refine w_ret ?_
    | fail
    )
  exact ⟨.inr rfl, by simp only [go_sem, Nat.reduceEqDiff, Nat.reduceAdd, Nat.reduceLeDiff, retOf, resOf]⟩
def found (p : Nat → Bool) (n : Nat) : Int := match (List.range n).find? p with | some i => i | none => -1
theorem found_hit {p : Nat → Bool} {n i : Nat} (hi : i < n) (h : ∀ j, j < i → p j = false) (hp : p i = true) : found p n = i := by
  unfold found
  have : (List.range n).find? p = some i := by
    rw [List.find?_range_eq_some]
    exact ⟨hp, by simpa using hi, fun j hj => by simpa using h j hj⟩
  rw [this]
theorem found_none {p : Nat → Bool} {n : Nat} (h : ∀ j, j < n → p j = false) : found p n = -1 := by
  unfold found
  have : (List.range n).find? p = none := by
    rw [List.find?_range_eq_none]
    exact fun j hj => by simpa using h j hj
  rw [this]
theorem a85g {k0 : Nat} (hk0 : env k0 = some d85) {xs : List PV} {k : Nat} {a b : List PV} {p : Nat → Bool} (hn : xs.length ≤ 9223372036854775807) (h1 : ∀ (i : Nat) e, xs[i]? = some e → cellsOf e = [e])
    (hz : ∀ (i : Nat) e, xs[i]? = some e → ∀ σ, (a ++ [e] ++ b).mapM (fz σ 12) = some (a ++ [e] ++ b)) (hp : ∀ (i : Nat) e, xs[i]? = some e → AV env k (a ++ [e] ++ b) = some (.sc (.bool (p i)))) :
    AV env k0 [.sl xs, .fn k a b] = some (.sc (.int .i64 (found p xs.length))) := by
  refine AV_wp hk0 rfl ?_
  (repeat' first
    | refine w_seq ?_ | refine w_rg ?_ | refine wo_nil ?_ | refine g_skU ?_ | refine g_skT ?_ | refine g_skF ?_
    | ((first | apply s_plain | apply s_void | apply s_guard | apply g_goT | apply g_goF); · simp only [go_sem, Nat.reduceEqDiff, Nat.reduceAdd, Nat.reduceLeDiff]; (first | done | rfl))
    | ((first | apply g_T | apply g_F | apply g_gT | apply g_gF); · intro q1_; (first | intro q2_ | have q2_ := q1_); simp only [go_sem, Nat.reduceEqDiff, Nat.reduceAdd, Nat.reduceLeDiff, q1_, q2_]; (first | done | rfl))
    | fail
    )
  refine w_block (w_range xs.length hn (fun i fr σ => fr 0 = .sl xs ∧ fr 1 = .fn k a b ∧ ∀ j, j < i → p j = false) (by decide) ?_ ?_ ?_ _ _ ?_ ?_ ?_)
  · rintro i fr σ v ⟨h0, h1, h2⟩
    refine ⟨⟨?_, ?_, h2⟩, ⟨?_, ?_, h2⟩, ⟨?_, ?_, h2⟩⟩ <;> simp only [go_sem, Nat.reduceEqDiff, Nat.reduceAdd, Nat.reduceLeDiff, h0, h1]
  · rintro i fr σ hi ⟨h0, h2, h3⟩ hti htn
    have hx := List.getElem?_eq_getElem hi
    have e1 : (0 : Int) ≤ (i : Int) ∧ (i : Int) < (xs.length : Int) := by omega
    refine w_block ?_
    have hz' := hz i _ hx
    have hp' := hp i _ hx
    simp only [List.append_assoc, List.cons_append, List.nil_append] at hz' hp'
    (repeat' first
    | refine w_seq ?_ | refine w_rg ?_ | refine wo_nil ?_ | refine g_skU ?_ | refine g_skT ?_ | refine g_skF ?_
    | ((first | apply s_plain | apply s_void | apply s_guard | apply g_goT | apply g_goF); · simp only [go_sem, Nat.reduceEqDiff, Nat.reduceAdd, Nat.reduceLeDiff, h0, h2, hti, e1, Int.toNat_natCast, hx, h1 i _ hx, List.append_assoc, hz', hp']; (first | done | rfl))
    | ((first | apply g_T | apply g_F | apply g_gT | apply g_gF); · intro q1_; (first | intro q2_ | have q2_ := q1_); simp only [go_sem, Nat.reduceEqDiff, Nat.reduceAdd, Nat.reduceLeDiff, h0, h2, hti, e1, Int.toNat_natCast, hx, h1 i _ hx, List.append_assoc, hz', hp', q1_, q2_]; (first | done | rfl))
    | fail
    )
    cases hpi : p i with
    | true =>
      (repeat' first
    | refine w_seq ?_ | refine w_rg ?_ | refine wo_nil ?_ | refine g_skU ?_ | refine g_skT ?_ | refine g_skF ?_
    | ((first | apply s_plain | apply s_void | apply s_guard | apply g_goT | apply g_goF); · simp only [go_sem, Nat.reduceEqDiff, Nat.reduceAdd, Nat.reduceLeDiff]; (first | done | rfl))
    | ((first | apply g_T | apply g_F | apply g_gT | apply g_gF); · intro q1_; (first | intro q2_ | have q2_ := q1_); simp only [go_sem, Nat.reduceEqDiff, Nat.reduceAdd, Nat.reduceLeDiff, q1_, q2_]; (first | done | rfl))
    | (apply w_condX; · simp only [go_sem, Nat.reduceEqDiff, Nat.reduceAdd, Nat.reduceLeDiff]; (first | done | rfl)); (first | refine wcd_T ?_ | refine wcd_F ?_)
    | refine w_skip ?_ | refine w_exit ?_ | refine w_ret ?_
    | fail
    )
      exact ⟨.inr rfl, by simp only [go_sem, Nat.reduceEqDiff, Nat.reduceAdd, Nat.reduceLeDiff, retOf, resOf, found_hit hi h3 hpi]⟩
    | false =>
      (repeat' first
    | refine w_seq ?_ | refine w_rg ?_ | refine wo_nil ?_ | refine g_skU ?_ | refine g_skT ?_ | refine g_skF ?_
    | ((first | apply s_plain | apply s_void | apply s_guard | apply g_goT | apply g_goF); · simp only [go_sem, Nat.reduceEqDiff, Nat.reduceAdd, Nat.reduceLeDiff]; (first | done | rfl))
    | ((first | apply g_T | apply g_F | apply g_gT | apply g_gF); · intro q1_; (first | intro q2_ | have q2_ := q1_); simp only [go_sem, Nat.reduceEqDiff, Nat.reduceAdd, Nat.reduceLeDiff, q1_, q2_]; (first | done | rfl))
    | (apply w_condX; · simp only [go_sem, Nat.reduceEqDiff, Nat.reduceAdd, Nat.reduceLeDiff]; (first | done | rfl)); (first | refine wcd_T ?_ | refine wcd_F ?_)
    | refine w_skip ?_ | refine w_exit ?_ | refine w_ret ?_
    | fail
    )
      refine ⟨⟨?_, ?_, fun j hj => ?_⟩, ?_, ?_⟩
      · simp only [go_sem, Nat.reduceEqDiff, Nat.reduceAdd, Nat.reduceLeDiff, h0]
      · simp only [go_sem, Nat.reduceEqDiff, Nat.reduceAdd, Nat.reduceLeDiff, h2]
      · by_cases hji : j = i
        · rw [hji]; exact hpi
        · exact h3 j (by omega)
      · simp only [go_sem, Nat.reduceEqDiff, Nat.reduceAdd, Nat.reduceLeDiff, hti]
      · simp only [go_sem, Nat.reduceEqDiff, Nat.reduceAdd, Nat.reduceLeDiff, htn]
  · rintro fr σ ⟨h0, h2, h3⟩
    simp only [if_true]
    (repeat' first
    | refine w_seq ?_ | refine w_rg ?_ | refine wo_nil ?_ | refine g_skU ?_ | refine g_skT ?_ | refine g_skF ?_
    | ((first | apply s_plain | apply s_void | apply s_guard | apply g_goT | apply g_goF); · simp only [go_sem, Nat.reduceEqDiff, Nat.reduceAdd, Nat.reduceLeDiff]; (first | done | rfl))
    | ((first | apply g_T | apply g_F | apply g_gT | apply g_gF); · intro q1_; (first | intro q2_ | have q2_ := q1_); simp only [go_sem, Nat.reduceEqDiff, Nat.reduceAdd, Nat.reduceLeDiff, q1_, q2_]; (first | done | rfl))
    | (apply w_condX; · simp only [go_sem, Nat.reduceEqDiff, Nat.reduceAdd, Nat.reduceLeDiff]; (first | done | rfl)); (first | refine wcd_T ?_ | refine wcd_F ?_)
    | refine w_skip ?_ | refine w_exit ?_ | refine w_ret ?_
    | fail
    )
    exact ⟨.inr rfl, by simp only [go_sem, Nat.reduceEqDiff, Nat.reduceAdd, Nat.reduceLeDiff, retOf, resOf, found_none h3]⟩
  · refine ⟨?_, ?_, fun j hj => by omega⟩ <;> simp only [go_sem, Nat.reduceEqDiff, Nat.reduceAdd, Nat.reduceLeDiff]
  · simp only [go_sem, Nat.reduceEqDiff, Nat.reduceAdd, Nat.reduceLeDiff]
  · simp only [go_sem, Nat.reduceEqDiff, Nat.reduceAdd, Nat.reduceLeDiff]
theorem a67 (H : Has lax env) {xs : List PV} {k : Nat} {a b : List PV} {n : Int} (ha : ∀ σ, a.mapM (fz σ 11) = some a) (hb : ∀ σ, b.mapM (fz σ 11) = some b) (h : AV env 85 [.sl xs, .fn k a b] = some (.sc (.int .i64 n))) :
    AV env 67 [.sl xs, .fn k a b] = some (.sc (.bool (decide (n ≥ 0)))) := by
  refine AV_wp (H (67, d67) (by simp [lax])) rfl ?_
  (repeat' first
    | refine w_seq ?_ | refine w_rg ?_ | refine wo_nil ?_ | refine g_skU ?_ | refine g_skT ?_ | refine g_skF ?_
    | ((first | apply s_plain | apply s_void | apply s_guard | apply g_goT | apply g_goF); · simp only [go_sem, Nat.reduceEqDiff, Nat.reduceAdd, Nat.reduceLeDiff, h, ha, hb]; (first | done | rfl))
    | ((first | apply g_T | apply g_F | apply g_gT | apply g_gF); · intro q1_; (first | intro q2_ | have q2_ := q1_); simp only [go_sem, Nat.reduceEqDiff, Nat.reduceAdd, Nat.reduceLeDiff, h, ha, hb, q1_, q2_]; (first | done | rfl))
    | (apply w_condX; · simp only [go_sem, Nat.reduceEqDiff, Nat.reduceAdd, Nat.reduceLeDiff, h, ha, hb]; (first | done | rfl)); (first | refine wcd_T ?_ | refine wcd_F ?_)
    | refine w_skip ?_ | refine w_exit ?_ | refine w_ret ?_
    | fail
    )
  exact ⟨.inr rfl, by simp only [go_sem, Nat.reduceEqDiff, Nat.reduceAdd, Nat.reduceLeDiff, retOf, resOf]⟩
def byteAt (s : ByteArray) (i : Nat) : Int := match s.data.toList[i]? with | some u => (u.toNat : Int) | none => 0
theorem bytes_get {s : ByteArray} {i : Nat} {e : PV} (h : (bytesPV s)[i]? = some e) : e = .sc (.int .u8 (byteAt s i)) := by
  unfold bytesPV at h
  rw [List.getElem?_map] at h
  obtain ⟨u, hu, rfl⟩ := Option.map_eq_some_iff.1 h
  unfold byteAt
  rw [hu]
theorem bytes_len (s : ByteArray) : (bytesPV s).length = s.size := by simp [bytesPV]
theorem a85b (H : Has lax env) {s : ByteArray} {k : Nat} {q : Int → Bool} (hn : s.size ≤ 9223372036854775807) (hp : ∀ c, AV env k [.sc (.int .u8 c)] = some (.sc (.bool (q c)))) :
    AV env 85 [.sl (bytesPV s), .fn k [] []] = some (.sc (.int .i64 (found (fun i => q (byteAt s i)) s.size))) := by
  have := a85g (H (85, d85) (by simp [lax])) (xs := bytesPV s) (k := k) (a := []) (b := []) (p := fun i => q (byteAt s i)) (by rw [bytes_len]; exact hn) (fun i e h => by rw [bytes_get h]; rfl) (fun i e h σ => by
    rw [bytes_get h]; rfl) (fun i e h => by rw [bytes_get h]; exact hp _)
  rwa [bytes_len] at this
theorem a67b (H : Has lax env) {s : ByteArray} {k : Nat} {q : Int → Bool} (hn : s.size ≤ 9223372036854775807) (hp : ∀ c, AV env k [.sc (.int .u8 c)] = some (.sc (.bool (q c)))) :
    AV env 67 [.sl (bytesPV s), .fn k [] []] = some (.sc (.bool (decide (found (fun i => q (byteAt s i)) s.size ≥ 0)))) :=
  a67 H (fun _ => rfl) (fun _ => rfl) (a85b H hn hp)
def oddW (c : Int) : Bool := (decide (c < 97) || decide (c > 122)) && (decide (c < 48) || decide (c > 57)) && (c != 95)
def hasB (q : Int → Bool) (s : ByteArray) : Bool := decide (found (fun i => q (byteAt s i)) s.size ≥ 0)
def wordB (s : ByteArray) : Bool := !(s.toList == (⟨#[]⟩ : ByteArray).toList) && decide ((s.size : Int) ≤ 64) && !hasB oddW s
theorem a49 (H : Has law env) {s : ByteArray} (hn : s.size ≤ 9223372036854775807) : AV env 49 [.sc (.string s)] = some (.sc (.bool (wordB s))) := by
  have h1 := a67b (law_lax H) (k := 66) hn (a66 H)
  refine AV_wp (H (49, d49) (by simp [law])) rfl ?_
  (repeat' first
    | refine w_seq ?_ | refine w_rg ?_ | refine wo_nil ?_ | refine g_skU ?_ | refine g_skT ?_ | refine g_skF ?_
    | ((first | apply s_plain | apply s_void | apply s_guard | apply g_goT | apply g_goF); · simp only [go_sem, Nat.reduceEqDiff, Nat.reduceAdd, Nat.reduceLeDiff, h1]; (first | done | rfl))
    | ((first | apply g_T | apply g_F | apply g_gT | apply g_gF); · intro q1_; (first | intro q2_ | have q2_ := q1_); simp only [go_sem, Nat.reduceEqDiff, Nat.reduceAdd, Nat.reduceLeDiff, h1, q1_, q2_]; (first | done | rfl))
    | (apply w_condX; · simp only [go_sem, Nat.reduceEqDiff, Nat.reduceAdd, Nat.reduceLeDiff, h1]; (first | done | rfl)); (first | refine wcd_T ?_ | refine wcd_F ?_)
    | refine w_skip ?_ | refine w_exit ?_ | refine w_ret ?_
    | fail
    )
  exact ⟨.inr rfl, by simp only [go_sem, Nat.reduceEqDiff, Nat.reduceAdd, Nat.reduceLeDiff, retOf, resOf]; rfl⟩
end

section
variable {env : Nat → Option Def} {fr : Fr} {σ σ' σ'' : St} {K : Fr → St → Prop} {Q : X → Fr → St → Prop} {p : PV} {bs : List UInt8}
/-! ### rows that nobody writes -/
def SubS (σ σ' : St) : Prop := ∀ o g x, o < 2000000 → σ.m o g = some x → ∃ x', σ'.m o g = some x' ∧ x'.es = x.es ∧ x'.xs = x.xs
theorem SubS.refl (σ : St) : SubS σ σ := fun _ _ x _ h => ⟨x, h, rfl, rfl⟩
theorem SubS.trans (h : SubS σ σ') (h' : SubS σ' σ'') : SubS σ σ'' := fun o g x ho hx =>
  let ⟨y, h1, h2, h3⟩ := h o g x ho hx
  let ⟨z, h4, h5, h6⟩ := h' o g y ho h1
  ⟨z, h4, h5.trans h2, h6.trans h3⟩
theorem SubS.box (h : SubS σ σ') {o g : Nat} (ho : 2000000 ≤ o) (y : Option Obj) : SubS σ (σ'.put o g y) := fun o' g' x ho' hx => by
  obtain ⟨z, h1, h2⟩ := h o' g' x ho' hx
  refine ⟨z, ?_, h2⟩
  simp only [put_m]
  rw [if_neg (by omega)]
  exact h1
theorem SubS.new (h : SubS σ σ') (hF : Fresh σ') (s : Nat) (y : Obj) : SubS σ (σ'.new s y) := fun o' g' x ho' hx => by
  obtain ⟨z, h1, h2⟩ := h o' g' x ho' hx
  refine ⟨z, ?_, h2⟩
  simp only [new_m]
  rw [if_neg]
  · exact h1
  · rintro ⟨rfl, rfl⟩
    rw [hF.none] at h1; cases h1
theorem SubS.same (h : SubS σ σ') {o g : Nat} {x y : Obj} (hx : σ'.m o g = some x) (h1 : y.es = x.es) (h2 : y.xs = x.xs) : SubS σ (σ'.put o g (some y)) := fun o' g' z ho' hz => by
  obtain ⟨u, q1, q2, q3⟩ := h o' g' z ho' hz
  simp only [put_m]
  by_cases hq : o' = o ∧ g' = g
  · obtain ⟨rfl, rfl⟩ := hq
    rw [hx] at q1
    simp only [Option.some.injEq] at q1
    subst q1
    exact ⟨y, by simp, h1.trans q2, h2.trans q3⟩
  · exact ⟨u, by rw [if_neg hq]; exact q1, q2, q3⟩
theorem Fresh.put (h : Fresh σ) {o g : Nat} {x : Obj} (hx : σ.m o g = some x) (y : Option Obj) : Fresh (σ.put o g y) := by
  intro o' g' hs
  simp only [put_m, put_c] at hs ⊢
  split at hs
  · rename_i hq
    obtain ⟨rfl, rfl⟩ := hq
    exact h o' g' (by rw [hx]; rfl)
  · exact h o' g' hs
theorem Fresh.nil : Fresh St.nil := fun _ _ h => by cases h
/-! ### a strings.Builder -/
def bytesOf (bs : List UInt8) : List PV := bs.map fun b => .sc (.int .u8 b.toNat)
def Buf (σ : St) (p : PV) (bs : List UInt8) : Prop := (p = .sc (.slice none 0 0) ∧ bs = []) ∨ ∃ g wr, p = .ob bufAt g 1 0 bs.length ∧ σ.m bufAt g = some ⟨1, bytesOf bs, true, wr⟩ ∧ bs ≠ []
def Bld (σ : St) (g : Nat) (bs : List UInt8) : Prop := ∃ a p, σ.m bldAt g = some ⟨2, [.agg [a, p]], true, true⟩ ∧ (a = .sc (.pointer none) ∨ a = .bx bldAt g 2 0 0) ∧ Buf σ p bs
structure Stays (σ σ' : St) : Prop where
  m : ∀ o g x, o ≠ bldAt → o ≠ bufAt → σ.m o g = some x → σ'.m o g = some x
  c : ∀ o, σ.c o ≤ σ'.c o
  s : SubS σ σ'
  f : Fresh σ'
theorem Stays.trans {σ1 σ2 σ3 : St} (h : Stays σ1 σ2) (h' : Stays σ2 σ3) : Stays σ1 σ3 :=
  ⟨fun o g x a b e => h'.m o g x a b (h.m o g x a b e), fun o => Nat.le_trans (h.c o) (h'.c o), h.s.trans h'.s, h'.f⟩
theorem Stays.refl (h : Fresh σ) : Stays σ σ := ⟨fun _ _ _ _ _ h => h, fun _ => Nat.le_refl _, SubS.refl σ, h⟩
theorem new_c_le (σ : St) (s : Nat) (y : Obj) (o : Nat) : σ.c o ≤ (σ.new s y).c o := by
  simp only [new_c]; split
  · rename_i h; subst h; omega
  · exact Nat.le_refl _
theorem Stays.new (h : Stays σ σ') (s : Nat) (y : Obj) : Stays σ (σ'.new s y) :=
  ⟨fun o g x a b e => (by
    have := h.m o g x a b e
    simp only [new_m]
    rw [if_neg]
    · exact this
    · rintro ⟨rfl, rfl⟩
      rw [h.f.none] at this
      cases this), fun o => Nat.le_trans (h.c o) (new_c_le _ _ _ _), h.s.new h.f _ _, h.f.new _ _⟩
theorem Stays.bld (h : Stays σ σ') {g : Nat} {x : Obj} (hm : σ'.m bldAt g = some x) (y : Obj) : Stays σ (σ'.put bldAt g (some y)) :=
  ⟨fun o g' x a b e => by simp only [put_m]; rw [if_neg (fun h => a h.1)]; exact h.m o g' x a b e, h.c, h.s.box (by unfold bldAt; omega) _, h.f.put hm _⟩
theorem bytesOf_len (bs : List UInt8) : (bytesOf bs).length = bs.length := by simp [bytesOf]
theorem Buf.bld (h : Buf σ p bs) (g : Nat) (y : Option Obj) : Buf (σ.put bldAt g y) p bs := by
  rcases h with h | ⟨g', wr, h1, h2, h3⟩
  · exact .inl h
  · exact .inr ⟨g', wr, h1, by simp only [put_m]; rw [if_neg (fun h => absurd h.1 (by decide))]; exact h2, h3⟩
theorem Buf.ok (h : Buf σ p bs) : cellsOf p = [p] ∧ okc p = true := by
  rcases h with ⟨rfl, _⟩ | ⟨g', wr, rfl, _, _⟩ <;> exact ⟨rfl, rfl⟩
theorem Bld.new {g : Nat} (h : Bld σ g bs) (hF : Fresh σ) (s : Nat) (y : Obj) : Bld (σ.new s y) g bs := by
  obtain ⟨a, p, hm, ha, hb⟩ := h
  have key : ∀ o g x, σ.m o g = some x → (σ.new s y).m o g = some x := fun o g x h => by
    simp only [new_m]
    rw [if_neg]
    · exact h
    · rintro ⟨rfl, rfl⟩
      rw [hF.none] at h; cases h
  refine ⟨a, p, key _ _ _ hm, ha, ?_⟩
  rcases hb with h | ⟨g', wr, h1, h2, h3⟩
  · exact .inl h
  · exact .inr ⟨g', wr, h1, key _ _ _ h2, h3⟩
theorem Bld.put {g o k : Nat} (h : Bld σ g bs) (h1 : o ≠ bldAt) (h2 : o ≠ bufAt) (y : Option Obj) : Bld (σ.put o k y) g bs := by
  obtain ⟨a, p, hm, ha, hb⟩ := h
  refine ⟨a, p, by simp only [put_m]; rw [if_neg (fun h => h1 h.1.symm)]; exact hm, ha, ?_⟩
  rcases hb with h | ⟨g', wr, q1, q2, q3⟩
  · exact .inl h
  · exact .inr ⟨g', wr, q1, by simp only [put_m]; rw [if_neg (fun h => h2 h.1.symm)]; exact q2, q3⟩
end

abbrev txt (l : List UInt8) : PV := .sc (.string ⟨l.toArray⟩)
theorem ba_data (a : Array UInt8) : (⟨a⟩ : ByteArray).data = a := rfl
theorem ba_size (l : List UInt8) : (⟨l.toArray⟩ : ByteArray).size = l.length := by simp [ByteArray.size]
theorem ba_toList (l : List UInt8) : (⟨l.toArray⟩ : ByteArray).toList = l := by rw [ByteArray.toList_eq]
theorem ba_eta (s : ByteArray) : (⟨s.data.toList.toArray⟩ : ByteArray) = s := by simp
theorem txt_eta (s : ByteArray) : txt s.data.toList = .sc (.string s) := by unfold txt; rw [ba_eta]
theorem ba_extract (l : List UInt8) (a b : Nat) : (⟨l.toArray⟩ : ByteArray).extract a b = ⟨((l.take b).drop a).toArray⟩ := by
  apply ByteArray.ext
  rw [ByteArray.data_extract]
  apply Array.ext'
  simp [List.drop_take]
theorem drop_at {r : List UInt8} {i : Nat} (h : i < r.length) : r.drop i = r[i] :: r.drop (i + 1) := List.drop_eq_getElem_cons h
def byteD (s : List UInt8) (i : Nat) : UInt8 := s[i]?.getD 0
theorem byteD_at {s : List UInt8} {i : Nat} (h : i < s.length) : byteD s i = s[i] := by unfold byteD; rw [List.getElem?_eq_getElem h]; rfl
theorem byteD_q {s : List UInt8} {i : Nat} (h : i < s.length) : s[i]? = some (byteD s i) := by rw [List.getElem?_eq_getElem h, byteD_at h]
theorem ba_append (a b : List UInt8) : (⟨a.toArray⟩ : ByteArray) ++ ⟨b.toArray⟩ = ⟨(a ++ b).toArray⟩ := by
  apply ByteArray.ext
  rw [ByteArray.data_append]
  simp
section
variable {env : Nat → Option Def} {fr : Fr} {σ σ' σ'' : St} {K : Fr → St → Prop} {Q : X → Fr → St → Prop} {p : PV} {bs : List UInt8}
end

end
section
def sumN (s : List UInt8) : Nat → Nat
  | 0 => 0
  | m + 1 => sumN s m + (byteD s m).toNat % 128 * 128 ^ m
theorem sumN_lt (s : List UInt8) : ∀ m, sumN s m < 128 ^ m
  | 0 => by simp [sumN]
  | m + 1 => by
    have h := sumN_lt s m
    have h2 : (byteD s m).toNat % 128 < 128 := Nat.mod_lt _ (by decide)
    have h3 : (byteD s m).toNat % 128 * 128 ^ m ≤ 127 * 128 ^ m := Nat.mul_le_mul_right _ (by omega)
    simp only [sumN, Nat.pow_succ]
    omega
theorem rd_go {s : List UInt8} {a b c : Int} : ∀ (d i : Nat), i + d ≤ s.length → i + d ≤ 9 → (∀ j, j < i + d → ¬ (byteD s j).toNat < 128) → rdN a b c (s.drop i) i (sumN s i) = rdN a b c (s.drop (i + d)) (i + d) (sumN s (i + d))
  | 0, i, _, _, _ => rfl
  | d + 1, i, h1, h2, h3 => by
    have hlt : i < s.length := by omega
    have e : s.drop i = byteD s i :: s.drop (i + 1) := by rw [byteD_at hlt]; exact drop_at hlt
    have ih := rd_go (s := s) (a := a) (b := b) (c := c) d (i + 1) (by omega) (by omega) (fun j hj => h3 j (by omega))
    rw [show i + 1 + d = i + (d + 1) by omega] at ih
    rw [← ih, e, rdN, if_neg (by omega), if_pos (by have := h3 i (by omega); omega)]
    rfl
theorem rdN_nil {a b c : Int} {i n : Nat} (h : i ≠ 9) : rdN a b c [] i n = (0, 0, a) := by
  unfold rdN
  simp [h]
theorem rdN_nine {a b c : Int} {l : List UInt8} {n : Nat} : rdN a b c l 9 n = (0, 0, b) := by
  unfold rdN
  simp
theorem head_none {s : List UInt8} (h : ∀ j, j < min s.length 9 → ¬ (byteD s j).toNat < 128) : headN s = if s.length < 9 then (0, 0, 3) else (0, 0, 2) := by
  have := rd_go (s := s) (a := 3) (b := 2) (c := 6) (min s.length 9) 0 (by omega) (by omega) (fun j hj => h j (by omega))
  simp only [Nat.zero_add, List.drop_zero, sumN] at this
  unfold headN
  rw [this]
  by_cases h9 : s.length < 9
  · rw [if_pos h9, Nat.min_eq_left (by omega), List.drop_length, rdN_nil (by omega)]
  · rw [if_neg h9, Nat.min_eq_right (by omega), rdN_nine]
theorem head_at {s : List UInt8} {k : Nat} (h1 : k < s.length) (h9 : k < 9) (hk : (byteD s k).toNat < 128) (h : ∀ j, j < k → ¬ (byteD s j).toNat < 128) :
    headN s = if (byteD s k).toNat = 0 ∧ k > 0 then (0, 0, 6) else (sumN s (k + 1), k + 1, 0) := by
  have := rd_go (s := s) (a := 3) (b := 2) (c := 6) k 0 (by omega) (by omega) (fun j hj => h j (by omega))
  simp only [Nat.zero_add, List.drop_zero, sumN] at this
  unfold headN
  have e : s.drop k = byteD s k :: s.drop (k + 1) := by rw [byteD_at h1]; exact drop_at h1
  rw [this, e, rdN, if_neg (by omega), if_neg (by omega)]
  rfl
theorem encN_len (n : Nat) : (encN n).length ≤ n + 1 := by
  induction n using Nat.strongRecOn with
  | _ n ih =>
    rw [encN]
    split
    · simp
    · have := ih (n / 128) (by omega)
      simp only [List.length_cons]
      omega
theorem or_add {n x k : Nat} (h : n < 2 ^ k) : n ||| x * 2 ^ k = n + x * 2 ^ k := by
  have := Nat.two_pow_add_eq_or_of_lt h x
  rw [Nat.or_comm, Nat.mul_comm x, ← this]
  omega

def useN (s : List UInt8) : Nat := (headN s).2.1
def numN (s : List UInt8) : Nat := (headN s).1
def dataN (s : List UInt8) : List UInt8 := (s.drop (useN s)).take (numN s)
def restN (s : List UInt8) : List UInt8 := s.drop (useN s + numN s + 4)
def goodN (s : List UInt8) : Bool := decide ((headN s).2.2 = 0) && decide (numN s ≤ 4096) && decide (useN s + numN s + 4 ≤ s.length)
def fitN (s : List UInt8) : Bool := decide ((s.drop (useN s + numN s)).take 4 = chkB (dataN s))
theorem scanF_nil (f : Nat) : scanF f [] = [] := by cases f <;> rfl
theorem scanF_eq (f : Nat) (s : List UInt8) : scanF (f + 1) s = if s = [] then [] else if goodN s && fitN s then dataN s :: scanF f (restN s) else [] := by
  rw [scanF]
  by_cases h0 : s = []
  · rw [if_pos h0, if_pos h0]
  · rw [if_neg h0, if_neg h0]
    by_cases h1 : (headN s).2.2 ≠ 0 ∨ (headN s).1 > 4096 ∨ (headN s).2.1 + (headN s).1 + 4 > s.length
    · have e : goodN s = false := by
        rw [Bool.eq_false_iff]
        intro h
        simp only [goodN, Bool.and_eq_true, decide_eq_true_eq] at h
        obtain ⟨⟨q1, q2⟩, q3⟩ := h
        have q2 : (headN s).1 ≤ 4096 := q2
        have q3 : (headN s).2.1 + (headN s).1 + 4 ≤ s.length := q3
        rcases h1 with h1 | h1 | h1
        · exact h1 q1
        · omega
        · omega
      rw [if_pos h1, e]
      rfl
    · have e : goodN s = true := by
        simp only [goodN, Bool.and_eq_true, decide_eq_true_eq]
        simp only [not_or, Decidable.not_not] at h1
        obtain ⟨q1, q2, q3⟩ := h1
        have q2 : ¬ (headN s).1 > 4096 := q2
        have q3 : ¬ (headN s).2.1 + (headN s).1 + 4 > s.length := q3
        refine ⟨⟨q1, ?_⟩, ?_⟩
        · show (headN s).1 ≤ 4096
          omega
        · show (headN s).2.1 + (headN s).1 + 4 ≤ s.length
          omega
      rw [if_neg h1, e, Bool.true_and]
      by_cases h2 : (s.drop (useN s + numN s)).take 4 = chkB (dataN s)
      · have e2 : fitN s = true := by simp only [fitN, decide_eq_true_eq]; exact h2
        rw [e2, if_neg (fun h => h h2), if_pos rfl]
        rfl
      · have e2 : fitN s = false := by simp only [fitN, decide_eq_false_iff_not]; exact h2
        rw [e2]
        exact if_pos h2
theorem scanF_more : ∀ (f g : Nat) (s : List UInt8), s.length ≤ f → s.length ≤ g → scanF f s = scanF g s
  | 0, g, s, h1, h2 => by
    have : s = [] := List.eq_nil_of_length_eq_zero (by omega)
    subst this
    rw [scanF_nil, scanF_nil]
  | f + 1, 0, s, h1, h2 => by
    have : s = [] := List.eq_nil_of_length_eq_zero (by omega)
    subst this
    rw [scanF_nil, scanF_nil]
  | f + 1, g + 1, s, h1, h2 => by
    rw [scanF_eq, scanF_eq]
    by_cases h0 : s = []
    · rw [if_pos h0, if_pos h0]
    · rw [if_neg h0, if_neg h0]
      have hp : 0 < s.length := List.length_pos_iff.2 h0
      have hl : (restN s).length ≤ s.length - 4 := by unfold restN; rw [List.length_drop]; omega
      rw [scanF_more f g (restN s) (by omega) (by omega)]
theorem scanS_nil : scanS [] = [] := rfl
theorem scanS_eq (s : List UInt8) : scanS s = if s = [] then [] else if goodN s && fitN s then dataN s :: scanS (restN s) else [] := by
  by_cases h0 : s = []
  · subst h0; rfl
  · have hp : 0 < s.length := List.length_pos_iff.2 h0
    unfold scanS
    obtain ⟨f, hf⟩ : ∃ f, s.length = f + 1 := ⟨s.length - 1, by omega⟩
    rw [hf, scanF_eq, if_neg h0, if_neg h0]
    have hl : (restN s).length ≤ f := by unfold restN; rw [List.length_drop]; omega
    rw [scanF_more f (restN s).length (restN s) hl (Nat.le_refl _)]
theorem good_ok {s : List UInt8} (h : goodN s = true) : headN s = (numN s, useN s, 0) ∧ numN s ≤ 4096 ∧ useN s + numN s + 4 ≤ s.length ∧ 0 < useN s ∧ useN s ≤ 9 := by
  simp only [goodN, Bool.and_eq_true, decide_eq_true_eq] at h
  have e : headN s = (numN s, useN s, 0) := by
    show headN s = ((headN s).1, (headN s).2.1, 0)
    rw [← h.1.1]
  obtain ⟨h1, h2, _, _⟩ := headN_ok e
  exact ⟨e, h.1.2, h.2, h1, h2⟩
theorem dataN_len {s : List UInt8} (h : goodN s = true) : (dataN s).length = numN s := by
  obtain ⟨_, h2, h3, _⟩ := good_ok h
  unfold dataN
  rw [List.length_take, List.length_drop]; omega
theorem recB_len {s : List UInt8} (h : goodN s = true) : (recB (dataN s)).length = useN s + numN s + 4 := by
  obtain ⟨h1, h2, h3, h4⟩ := good_ok h
  obtain ⟨_, _, h5, h6⟩ := headN_ok h1
  unfold recB
  rw [List.length_append, List.length_append, dataN_len h, h5, List.length_take, chkB_len]
  omega

theorem bl_irrefl : ∀ a : List UInt8, Op.bytesLess a a = false
  | [] => rfl
  | a :: r => by
    have := bl_irrefl r
    simp [Op.bytesLess, UInt8.lt_irrefl, this]
theorem bl_cons {a b : UInt8} {r s : List UInt8} : Op.bytesLess (a :: r) (b :: s) = true ↔ a.toNat < b.toNat ∨ (a.toNat = b.toNat ∧ Op.bytesLess r s = true) := by
  simp only [Op.bytesLess]
  by_cases h : a < b
  · rw [UInt8.lt_iff_toNat_lt] at h
    simp [UInt8.lt_iff_toNat_lt, h]
  · rw [UInt8.lt_iff_toNat_lt] at h
    by_cases h2 : a = b
    · subst h2; simp [UInt8.lt_irrefl]
    · have h3 : a.toNat ≠ b.toNat := fun e => h2 (UInt8.toNat_inj.1 e)
      simp [UInt8.lt_iff_toNat_lt, h, h2, h3]
theorem bl_trans : ∀ {a b c : List UInt8}, Op.bytesLess a b = true → Op.bytesLess b c = true → Op.bytesLess a c = true
  | [], [], _, h, _ => by cases h
  | [], _ :: _, [], _, h => by cases h
  | [], _ :: _, _ :: _, _, _ => rfl
  | _ :: _, [], _, h, _ => by cases h
  | _ :: _, _ :: _, [], _, h => by cases h
  | a :: r, b :: s, c :: t, h1, h2 => by
    rw [bl_cons] at h1 h2 ⊢
    rcases h1 with h1 | ⟨h1, h3⟩
    · rcases h2 with h2 | ⟨h2, h4⟩
      · exact .inl (by omega)
      · exact .inl (by omega)
    · rcases h2 with h2 | ⟨h2, h4⟩
      · exact .inl (by omega)
      · exact .inr ⟨by omega, bl_trans h3 h4⟩
theorem bl_tri : ∀ {a b : List UInt8}, a ≠ b → Op.bytesLess a b = true ∨ Op.bytesLess b a = true
  | [], [], h => absurd rfl h
  | [], _ :: _, _ => .inl rfl
  | _ :: _, [], _ => .inr rfl
  | a :: r, b :: s, h => by
    rw [bl_cons, bl_cons]
    by_cases h1 : a.toNat < b.toNat
    · exact .inl (.inl h1)
    · by_cases h2 : b.toNat < a.toNat
      · exact .inr (.inl h2)
      · have h3 : a.toNat = b.toNat := by omega
        have h4 : r ≠ s := fun e => h (by rw [e, UInt8.toNat_inj.1 h3])
        rcases bl_tri h4 with h5 | h5
        · exact .inl (.inr ⟨h3, h5⟩)
        · exact .inr (.inr ⟨h3.symm, h5⟩)
theorem bl_asymm {a b : List UInt8} (h : Op.bytesLess a b = true) : Op.bytesLess b a = false := by
  cases h2 : Op.bytesLess b a with
  | false => rfl
  | true => have := bl_trans h h2; rw [bl_irrefl] at this; cases this
structure Fl where
  n : List UInt8
  s : List UInt8
  t : List UInt8
deriving DecidableEq, Inhabited
abbrev Srt (l : List Fl) : Prop := l.Pairwise fun a b => Op.bytesLess a.n b.n = true
def getF (l : List Fl) (n : List UInt8) : Option Fl := l.find? fun f => f.n == n
def posF (l : List Fl) (n : List UInt8) : Nat := (l.takeWhile fun f => Op.bytesLess f.n n).length
def hasF (l : List Fl) (n : List UInt8) : Bool := (getF l n).isSome
def putF (l : List Fl) (f : Fl) : List Fl := l.take (posF l f.n) ++ f :: l.drop (if hasF l f.n then posF l f.n + 1 else posF l f.n)
def delF' (l : List Fl) (n : List UInt8) : List Fl := l.take (posF l n) ++ l.drop (posF l n + 1)
theorem getF_cons (a : Fl) (l : List Fl) (n : List UInt8) : getF (a :: l) n = if a.n = n then some a else getF l n := by
  unfold getF
  rw [List.find?_cons]
  by_cases h : a.n = n
  · rw [if_pos h, show (a.n == n) = true by simpa using h]
  · rw [if_neg h, show (a.n == n) = false by simpa using h]
theorem getF_none {l : List Fl} {n : List UInt8} : getF l n = none ↔ ∀ f ∈ l, f.n ≠ n := by
  unfold getF
  rw [List.find?_eq_none]
  simp
theorem getF_some {l : List Fl} (hs : Srt l) {n : List UInt8} {f : Fl} : getF l n = some f ↔ f ∈ l ∧ f.n = n := by
  induction l with
  | nil => simp [getF]
  | cons a r ih =>
    rw [getF_cons]
    have hr := List.pairwise_cons.1 hs
    by_cases h : a.n = n
    · rw [if_pos h]
      constructor
      · intro e
        simp only [Option.some.injEq] at e
        subst e
        exact ⟨by simp, h⟩
      · rintro ⟨h1, h2⟩
        rcases List.mem_cons.1 h1 with h1 | h1
        · rw [h1]
        · have := hr.1 f h1
          rw [h, h2, bl_irrefl] at this
          cases this
    · rw [if_neg h, ih hr.2]
      constructor
      · rintro ⟨h1, h2⟩
        exact ⟨List.mem_cons_of_mem _ h1, h2⟩
      · rintro ⟨h1, h2⟩
        rcases List.mem_cons.1 h1 with h1 | h1
        · subst h1; exact absurd h2 h
        · exact ⟨h1, h2⟩
theorem posF_cons (a : Fl) (l : List Fl) (n : List UInt8) : posF (a :: l) n = if Op.bytesLess a.n n = true then posF l n + 1 else 0 := by
  unfold posF
  rw [List.takeWhile_cons]
  by_cases h : Op.bytesLess a.n n = true
  · simp [h]
  · simp [h]
theorem posF_le (l : List Fl) (n : List UInt8) : posF l n ≤ l.length := by
  induction l with
  | nil => simp [posF]
  | cons a r ih =>
    rw [posF_cons]
    split
    · simp; omega
    · simp
theorem pos_spec {l : List Fl} (hs : Srt l) (n : List UInt8) : (∀ f ∈ l.take (posF l n), Op.bytesLess f.n n = true) ∧ (∀ f ∈ l.drop (posF l n), Op.bytesLess f.n n = false) := by
  induction l with
  | nil => simp
  | cons a r ih =>
    have hr := List.pairwise_cons.1 hs
    rw [posF_cons]
    by_cases h : Op.bytesLess a.n n = true
    · rw [if_pos h, List.take_succ_cons, List.drop_succ_cons]
      refine ⟨fun f hf => ?_, (ih hr.2).2⟩
      rcases List.mem_cons.1 hf with hf | hf
      · rw [hf]; exact h
      · exact (ih hr.2).1 f hf
    · rw [if_neg h, List.take_zero, List.drop_zero]
      refine ⟨fun f hf => (by cases hf), fun f hf => ?_⟩
      rcases List.mem_cons.1 hf with hf | hf
      · rw [hf]; simpa using h
      · cases h2 : Op.bytesLess f.n n with
        | false => rfl
        | true => exact absurd (bl_trans (hr.1 f hf) h2) h
theorem pos_has {l : List Fl} (hs : Srt l) (n : List UInt8) : hasF l n = (match l[posF l n]? with | some f => f.n == n | none => false) := by
  induction l with
  | nil => rfl
  | cons a r ih =>
    have hr := List.pairwise_cons.1 hs
    unfold hasF at ih ⊢
    rw [posF_cons, getF_cons]
    by_cases h : Op.bytesLess a.n n = true
    · rw [if_pos h, List.getElem?_cons_succ]
      have hne : a.n ≠ n := fun e => by rw [e, bl_irrefl] at h; cases h
      rw [if_neg hne]
      exact ih hr.2
    · rw [if_neg h, List.getElem?_cons_zero]
      by_cases he : a.n = n
      · rw [if_pos he]; simp [he]
      · rw [if_neg he]
        have e1 : getF r n = none := getF_none.2 fun f hf e => by
          have h1 := hr.1 f hf
          rcases bl_tri he with h2 | h2
          · exact h h2
          · rw [e] at h1
            exact h (by rw [bl_asymm h2] at h1; cases h1)
        rw [e1]
        simp [he]
theorem pos_at {l : List Fl} (hs : Srt l) {n : List UInt8} (h : hasF l n = true) : ∃ f, l[posF l n]? = some f ∧ f.n = n ∧ getF l n = some f := by
  rw [pos_has hs] at h
  split at h
  · rename_i f hf
    have hn : f.n = n := by simpa using h
    exact ⟨f, hf, hn, (getF_some hs).2 ⟨List.mem_of_getElem? hf, hn⟩⟩
  · cases h
theorem srt_sub {l a b : List Fl} (hs : Srt l) (i j : Nat) (hij : i ≤ j) : Srt (l.take i ++ l.drop j) := by
  have : (l.take i ++ l.drop j).Sublist l := by
    conv => rhs; rw [← List.take_append_drop i l]
    refine List.Sublist.append (List.Sublist.refl _) ?_
    rw [show j = i + (j - i) by omega, ← List.drop_drop]
    exact List.drop_sublist _ _
  exact hs.sublist this
theorem delF_srt {l : List Fl} (hs : Srt l) (n : List UInt8) : Srt (delF' l n) := srt_sub (a := []) (b := []) hs _ _ (by omega)

end
section
attribute [local go_sem ↓] e_mv e_pick e_bin e_eqs e_beq e_un e_cvi e_str e_s2b e_b2s e_box e_build e_bsl e_ld e_st e_nck e_mkf e_slcS e_slcL e_fa e_fld e_ia e_iaa e_ix e_ixa e_ext e_lenS e_lenL e_mnmx e_app e_appb e_bbx e_msl e_clr e_call e_callv e_icall e_slcA e_mkm e_mput e_mget e_mlen e_mdel pa_t pa_c pa_f slcSP_str hiOf_some hiOf_none loOf_some loOf_none set_eq set_ne
attribute [local go_sem] pv pv1 simple frOf_0 frOf_1 frOf_2 frOf_3 frOf_4 frOf_5 ne_eq not_false_eq_true if_true Bool.false_eq_true if_false pbin punary Option.map_some Option.bind_some pick_and pick_or opt_true Bool.true_and Bool.and_self Bool.and_true Bool.true_or Bool.false_or Bool.not_true Bool.not_false callE pcall_eq List.map_cons List.map_nil List.append_nil List.nil_append List.cons_append mapM_cons' mapM_nil' dep_eq fz_sc fz_sl fz_em fz_fn fz_fp fz_agg fz_tu fz_bx fz_ob Nat.lt_irrefl Nat.zero_lt_one Nat.lt_add_one flat clL cl Bool.or_true okc_sc okc_em okc_sl okc_ob okc_bx okc_fp okc_fn okc_agg okc_ifc cells_agg cells_sc cells_sl cells_em cells_ob cells_fn cells_bx cells_fp List.length_cons List.length_nil Nat.zero_add and_self true_and and_true new_m new_c put_m put_c nil_m nil_c nil_mm new_mm put_mm newM_m newM_c newM_mm putM_m putM_c putM_mm mkeyV_1 mkeyV_2 mapAt_eq deref List.getElem?_cons_zero List.getElem?_cons_succ List.drop_zero List.drop_succ_cons List.take_succ_cons List.take_zero Nat.le_refl false_and and_false decide_true decide_false lenP_em lenP_nil lenP_sl lenP_ob Int.ofNat_zero
def dIdxF (es : Nat) (sz : Option Nat) : Def := (.code 2 [.tmp 4] (.seq (.rg false [⟨.some 4, .none, .mv (.c (.int .i64 0))⟩]) (.seq (.seq (.rg false [⟨.some 6, .none, .mv (.t 0)⟩, ⟨.some 7, .none, .lenL (.t 6)⟩, ⟨.some 8, .none, .mv (.c (.int .i64 0))⟩]) (.block 0 (.loop (.seq (.rg false [⟨.some 9, .none, .bin .lss (.t 8) (.t 7)⟩]) (.seq (.cond (.t 9) .skip (.exit 0)) (.seq (.block 1 (.seq (.rg false [⟨.some 10, .none, .mv (.t 8)⟩, ⟨.some 5, .none, .mv (.t 10)⟩]) (.seq (.rg false [⟨.some 11, .none, .mv (.t 1)⟩, ⟨.some 12, .none, .mv (.t 0)⟩, ⟨.some 13, .none, .mv (.t 5)⟩, ⟨.some 14, .none, .ia es (.t 12) (.t 13)⟩, ⟨.some 15, .none, .ld sz (.t 14)⟩, ⟨.some 16, .none, .callv (.t 11) .pure [.t 15]⟩]) (.cond (.t 16) (.seq (.rg false [⟨.some 17, .none, .mv (.t 5)⟩, ⟨.some 4, .none, .mv (.t 17)⟩]) .ret) .skip)))) (.rg false [⟨.some 18, .none, .bin .add (.t 8) (.c (.int .i64 1))⟩, ⟨.some 8, .none, .mv (.t 18)⟩]))))))) (.seq (.rg false [⟨.some 4, .none, .mv (.c (.int .i64 (-1)))⟩]) .ret))))
def dConF (k : Nat) : Def := (.code 2 [.tmp 4] (.seq (.rg false [⟨.some 4, .none, .mv (.c (.bool false))⟩]) (.seq (.rg false [⟨.some 5, .none, .mv (.t 0)⟩, ⟨.some 6, .none, .mv (.t 1)⟩, ⟨.some 7, .none, .call k .pure [.t 5, .t 6]⟩, ⟨.some 8, .none, .bin .geq (.t 7) (.c (.int .i64 0))⟩, ⟨.some 4, .none, .mv (.t 8)⟩]) .ret)))
section
variable {env : Nat → Option Def} {fr : Fr} {σ σ' σ'' : St} {K : Fr → St → Prop} {Q : X → Fr → St → Prop} {p : PV} {bs : List UInt8}
def ldE (sz : Option Nat) (e : PV) : Option PV := match sz with
  | none => (cellsOf e)[0]?
  | some n => if 0 + n ≤ (cellsOf e).length then some (.agg (((cellsOf e).drop 0).take n)) else none
def Elems (es : Nat) (sz : Option Nat) (xs : List PV) : Prop := ∀ (i : Nat) e, xs[i]? = some e → (cellsOf e).length = es ∧ ldE sz e = some e
theorem e_ldE (E : Ev) (s : Nat) (fr : Fr) (σ : St) (sz : Option Nat) (a : PA) {xs : List PV} {i : Nat} {e : PV} (ha : pa fr a = .fp xs i 0) (he : xs[i]? = some e) (hl : ldE sz e = some e) : evO E s fr σ (.ld sz a) = some (e, σ) := by
  simp only [evO, ha, deref, he, Option.map_some, Option.bind_some]
  unfold ldE at hl
  cases sz with
  | none => simp only at hl ⊢; rw [hl]; rfl
  | some n =>
    simp only at hl ⊢
    split at hl
    · rename_i hn
      rw [if_pos hn]
      simp only [Option.some.injEq] at hl
      rw [hl]
    · cases hl
theorem idxF_g {k0 es : Nat} {sz : Option Nat} (hk0 : env k0 = some (dIdxF es sz)) {xs : List PV} {k : Nat} {a b : List PV} {q : Nat → Bool} (hn : xs.length ≤ 9223372036854775807) (hE : Elems es sz xs)
    (hz : ∀ (i : Nat) e, xs[i]? = some e → ∀ σ, (a ++ [e] ++ b).mapM (fz σ 12) = some (a ++ [e] ++ b)) (hp : ∀ (i : Nat) e, xs[i]? = some e → AV env k (a ++ [e] ++ b) = some (.sc (.bool (q i)))) :
    AV env k0 [.sl xs, .fn k a b] = some (.sc (.int .i64 (found q xs.length))) := by
  refine AV_wp hk0 rfl ?_
  (repeat' first
    | refine w_seq ?_ | refine w_rg ?_ | refine wo_nil ?_ | refine g_skU ?_ | refine g_skT ?_ | refine g_skF ?_
    | ((first | apply s_plain | apply s_void | apply s_guard | apply g_goT | apply g_goF); · simp only [go_sem, Nat.reduceEqDiff, Nat.reduceAdd, Nat.reduceLeDiff]; (first | done | rfl))
    | ((first | apply g_T | apply g_F | apply g_gT | apply g_gF); · intro q1_; (first | intro q2_ | have q2_ := q1_); simp only [go_sem, Nat.reduceEqDiff, Nat.reduceAdd, Nat.reduceLeDiff, q1_, q2_]; (first | done | rfl))
    | fail
    )
  refine w_block (w_rangeF xs.length hn (fun i fr σ => ∀ j, j < i → q j = false) ⟨by decide, rfl, rfl⟩ (fun _ _ _ _ h => ⟨h, h, h⟩) (fun j hj => by omega) (by simp only [go_sem, Nat.reduceEqDiff, Nat.reduceAdd, Nat.reduceLeDiff]; first | done | rfl) (by simp only [go_sem, Nat.reduceEqDiff, Nat.reduceAdd, Nat.reduceLeDiff]; first | done | rfl) ?_ ?_)
  · rintro i fr1 σ1 hi h3 hti hfr
    have f0_0 := hfr 0 rfl; have f0_1 := hfr 1 rfl; have f0_7 := hfr 7 rfl; try (simp only [go_sem, Nat.reduceEqDiff, Nat.reduceAdd, Nat.reduceLeDiff] at f0_0); try (simp only [go_sem, Nat.reduceEqDiff, Nat.reduceAdd, Nat.reduceLeDiff] at f0_1); try (simp only [go_sem, Nat.reduceEqDiff, Nat.reduceAdd, Nat.reduceLeDiff] at f0_7)
    have hx := List.getElem?_eq_getElem hi
    have e1 : (0 : Int) ≤ (i : Int) ∧ (i : Int) < (xs.length : Int) := by omega
    refine w_block ?_
    obtain ⟨hc, hl⟩ := hE i _ hx
    have hz' := hz i _ hx
    have hp' := hp i _ hx
    simp only [List.append_assoc, List.cons_append, List.nil_append] at hz' hp'
    (repeat' first
    | refine w_seq ?_ | refine w_rg ?_ | refine wo_nil ?_ | refine g_skU ?_ | refine g_skT ?_ | refine g_skF ?_
    | ((first | apply s_plain | apply s_void | apply s_guard | apply g_goT | apply g_goF); · simp only [go_sem, Nat.reduceEqDiff, Nat.reduceAdd, Nat.reduceLeDiff, f0_0, f0_1, f0_7, hti, e1, Int.toNat_natCast, hx, hc, List.append_assoc]; (first | done | rfl))
    | ((first | apply g_T | apply g_F | apply g_gT | apply g_gF); · intro q1_; (first | intro q2_ | have q2_ := q1_); simp only [go_sem, Nat.reduceEqDiff, Nat.reduceAdd, Nat.reduceLeDiff, f0_0, f0_1, f0_7, hti, e1, Int.toNat_natCast, hx, hc, List.append_assoc, q1_, q2_]; (first | done | rfl))
    | fail
    )
    refine s_plain (e_ldE _ _ _ _ _ _ (xs := xs) (i := i) (by simp only [go_sem, Nat.reduceEqDiff, Nat.reduceAdd, Nat.reduceLeDiff]) hx hl) ?_
    (repeat' first
    | refine w_seq ?_ | refine w_rg ?_ | refine wo_nil ?_ | refine g_skU ?_ | refine g_skT ?_ | refine g_skF ?_
    | ((first | apply s_plain | apply s_void | apply s_guard | apply g_goT | apply g_goF); · simp only [go_sem, Nat.reduceEqDiff, Nat.reduceAdd, Nat.reduceLeDiff, List.append_assoc, hz', hp']; (first | done | rfl))
    | ((first | apply g_T | apply g_F | apply g_gT | apply g_gF); · intro q1_; (first | intro q2_ | have q2_ := q1_); simp only [go_sem, Nat.reduceEqDiff, Nat.reduceAdd, Nat.reduceLeDiff, List.append_assoc, hz', hp', q1_, q2_]; (first | done | rfl))
    | fail
    )
    cases hpi : q i with
    | true =>
      (repeat' first
    | refine w_seq ?_ | refine w_rg ?_ | refine wo_nil ?_ | refine g_skU ?_ | refine g_skT ?_ | refine g_skF ?_
    | ((first | apply s_plain | apply s_void | apply s_guard | apply g_goT | apply g_goF); · simp only [go_sem, Nat.reduceEqDiff, Nat.reduceAdd, Nat.reduceLeDiff]; (first | done | rfl))
    | ((first | apply g_T | apply g_F | apply g_gT | apply g_gF); · intro q1_; (first | intro q2_ | have q2_ := q1_); simp only [go_sem, Nat.reduceEqDiff, Nat.reduceAdd, Nat.reduceLeDiff, q1_, q2_]; (first | done | rfl))
    | (apply w_condX; · simp only [go_sem, Nat.reduceEqDiff, Nat.reduceAdd, Nat.reduceLeDiff]; (first | done | rfl)); (first | refine wcd_T ?_ | refine wcd_F ?_)
    | refine w_skip ?_ | refine w_exit ?_ | refine w_ret ?_
    | fail
    )
      exact ⟨by first | exact .inr rfl | exact .inr trivial | exact .inl rfl, by simp only [go_sem, Nat.reduceEqDiff, Nat.reduceAdd, Nat.reduceLeDiff, retOf, resOf, found_hit hi h3 hpi]; first | done | rfl⟩
    | false =>
      (repeat' first
    | refine w_seq ?_ | refine w_rg ?_ | refine wo_nil ?_ | refine g_skU ?_ | refine g_skT ?_ | refine g_skF ?_
    | ((first | apply s_plain | apply s_void | apply s_guard | apply g_goT | apply g_goF); · simp only [go_sem, Nat.reduceEqDiff, Nat.reduceAdd, Nat.reduceLeDiff]; (first | done | rfl))
    | ((first | apply g_T | apply g_F | apply g_gT | apply g_gF); · intro q1_; (first | intro q2_ | have q2_ := q1_); simp only [go_sem, Nat.reduceEqDiff, Nat.reduceAdd, Nat.reduceLeDiff, q1_, q2_]; (first | done | rfl))
    | (apply w_condX; · simp only [go_sem, Nat.reduceEqDiff, Nat.reduceAdd, Nat.reduceLeDiff]; (first | done | rfl)); (first | refine wcd_T ?_ | refine wcd_F ?_)
    | refine w_skip ?_ | refine w_exit ?_ | refine w_ret ?_
    | fail
    )
      intro j hj
      by_cases hji : j = i
      · rw [hji]; exact hpi
      · exact h3 j (by omega)
  · rintro fr1 σ1 h3 hfr
    try simp only [if_true]
    (repeat' first
    | refine w_seq ?_ | refine w_rg ?_ | refine wo_nil ?_ | refine g_skU ?_ | refine g_skT ?_ | refine g_skF ?_
    | ((first | apply s_plain | apply s_void | apply s_guard | apply g_goT | apply g_goF); · simp only [go_sem, Nat.reduceEqDiff, Nat.reduceAdd, Nat.reduceLeDiff]; (first | done | rfl))
    | ((first | apply g_T | apply g_F | apply g_gT | apply g_gF); · intro q1_; (first | intro q2_ | have q2_ := q1_); simp only [go_sem, Nat.reduceEqDiff, Nat.reduceAdd, Nat.reduceLeDiff, q1_, q2_]; (first | done | rfl))
    | (apply w_condX; · simp only [go_sem, Nat.reduceEqDiff, Nat.reduceAdd, Nat.reduceLeDiff]; (first | done | rfl)); (first | refine wcd_T ?_ | refine wcd_F ?_)
    | refine w_skip ?_ | refine w_exit ?_ | refine w_ret ?_
    | fail
    )
    exact ⟨by first | exact .inr rfl | exact .inr trivial | exact .inl rfl, by simp only [go_sem, Nat.reduceEqDiff, Nat.reduceAdd, Nat.reduceLeDiff, retOf, resOf, found_none h3]; first | done | rfl⟩
theorem conF_g {k0 k1 : Nat} (hk1 : env k1 = some (dConF k0)) {xs : List PV} {k : Nat} {a b : List PV} {n : Int} (ha : ∀ σ, a.mapM (fz σ 11) = some a) (hb : ∀ σ, b.mapM (fz σ 11) = some b) (h : AV env k0 [.sl xs, .fn k a b] = some (.sc (.int .i64 n))) :
    AV env k1 [.sl xs, .fn k a b] = some (.sc (.bool (decide (n ≥ 0)))) := by
  refine AV_wp hk1 rfl ?_
  (repeat' first
    | refine w_seq ?_ | refine w_rg ?_ | refine wo_nil ?_ | refine g_skU ?_ | refine g_skT ?_ | refine g_skF ?_
    | ((first | apply s_plain | apply s_void | apply s_guard | apply g_goT | apply g_goF); · simp only [go_sem, Nat.reduceEqDiff, Nat.reduceAdd, Nat.reduceLeDiff, h, ha, hb]; (first | done | rfl))
    | ((first | apply g_T | apply g_F | apply g_gT | apply g_gF); · intro q1_; (first | intro q2_ | have q2_ := q1_); simp only [go_sem, Nat.reduceEqDiff, Nat.reduceAdd, Nat.reduceLeDiff, h, ha, hb, q1_, q2_]; (first | done | rfl))
    | (apply w_condX; · simp only [go_sem, Nat.reduceEqDiff, Nat.reduceAdd, Nat.reduceLeDiff, h, ha, hb]; (first | done | rfl)); (first | refine wcd_T ?_ | refine wcd_F ?_)
    | refine w_skip ?_ | refine w_exit ?_ | refine w_ret ?_
    | fail
    )
  exact ⟨by first | exact .inr rfl | exact .inr trivial | exact .inl rfl, by simp only [go_sem, Nat.reduceEqDiff, Nat.reduceAdd, Nat.reduceLeDiff, retOf, resOf]; first | done | rfl⟩
theorem found_any {α : Type} {l : List α} {q : Nat → Bool} {f : α → Bool} (h : ∀ i x, l[i]? = some x → q i = f x) : decide (found q l.length ≥ 0) = l.any f := by
  rw [Bool.eq_iff_iff, decide_eq_true_iff, List.any_eq_true]
  unfold found
  constructor
  · intro h0
    cases hf : (List.range l.length).find? q with
    | none => rw [hf] at h0; simp at h0
    | some i =>
      have hi : i < l.length := by simpa using List.mem_of_find?_eq_some hf
      exact ⟨l[i], List.getElem_mem hi, by rw [← h i _ (List.getElem?_eq_getElem hi)]; exact List.find?_some hf⟩
  · rintro ⟨x, hx, hfx⟩
    obtain ⟨i, hi⟩ := List.getElem?_of_mem hx
    cases hf : (List.range l.length).find? q with
    | none =>
      have := List.find?_eq_none.1 hf i (by simpa using (List.getElem?_eq_some_iff.1 hi).1)
      rw [h i x hi] at this
      exact absurd hfx this
    | some j => simp
theorem all_hit {q : Nat → Bool} {n i : Nat} (hi : i < n) (h : q i = false) : (List.range n).all q = false := by
  rw [List.all_eq_false]
  exact ⟨i, by simpa using hi, by simp [h]⟩
theorem all_all {q : Nat → Bool} {n : Nat} (h : ∀ j, j < n → q j = true) : (List.range n).all q = true := by
  rw [List.all_eq_true]
  intro j hj
  exact h j (by simpa using hj)
end

end
section
attribute [local go_sem ↓] e_mv e_pick e_bin e_eqs e_beq e_un e_cvi e_str e_s2b e_b2s e_box e_build e_bsl e_ld e_st e_nck e_mkf e_slcS e_slcL e_fa e_fld e_ia e_iaa e_ix e_ixa e_ext e_lenS e_lenL e_mnmx e_app e_appb e_bbx e_msl e_clr e_call e_callv e_icall e_slcA e_mkm e_mput e_mget e_mlen e_mdel pa_t pa_c pa_f slcSP_str hiOf_some hiOf_none loOf_some loOf_none set_eq set_ne
attribute [local go_sem] pv pv1 simple frOf_0 frOf_1 frOf_2 frOf_3 frOf_4 frOf_5 ne_eq not_false_eq_true if_true Bool.false_eq_true if_false pbin punary Option.map_some Option.bind_some pick_and pick_or opt_true Bool.true_and Bool.and_self Bool.and_true Bool.true_or Bool.false_or Bool.not_true Bool.not_false callE pcall_eq List.map_cons List.map_nil List.append_nil List.nil_append List.cons_append mapM_cons' mapM_nil' dep_eq fz_sc fz_sl fz_em fz_fn fz_fp fz_agg fz_tu fz_bx fz_ob Nat.lt_irrefl Nat.zero_lt_one Nat.lt_add_one flat clL cl Bool.or_true okc_sc okc_em okc_sl okc_ob okc_bx okc_fp okc_fn okc_agg okc_ifc cells_agg cells_sc cells_sl cells_em cells_ob cells_fn cells_bx cells_fp List.length_cons List.length_nil Nat.zero_add and_self true_and and_true new_m new_c put_m put_c nil_m nil_c nil_mm new_mm put_mm newM_m newM_c newM_mm putM_m putM_c putM_mm mkeyV_1 mkeyV_2 mapAt_eq deref List.getElem?_cons_zero List.getElem?_cons_succ List.drop_zero List.drop_succ_cons List.take_succ_cons List.take_zero Nat.le_refl false_and and_false decide_true decide_false lenP_em lenP_nil lenP_sl lenP_ob Int.ofNat_zero splice fillP fillE List.modify_zero_cons List.replicate_succ List.replicate_zero List.set_cons_zero List.drop_zero ba_data ba_size ba_toList ba_extract ba_append List.toList_toArray
def dBsF (es : Nat) (sz : Option Nat) : Def := (.code 3 [.tmp 6, .tmp 7] (.seq (.rg false [⟨.some 6, .none, .mv (.c (.int .i64 0))⟩, ⟨.some 7, .none, .mv (.c (.bool false))⟩]) (.seq (.rg false [⟨.some 12, .none, .mv (.t 0)⟩, ⟨.some 13, .none, .lenL (.t 12)⟩, ⟨.some 8, .none, .mv (.t 13)⟩]) (.seq (.rg false [⟨.some 14, .none, .mv (.t 8)⟩, ⟨.some 9, .none, .mv (.c (.int .i64 0))⟩, ⟨.some 10, .none, .mv (.t 14)⟩]) (.seq (.block 0 (.loop (.seq (.seq (.rg false [⟨.some 15, .none, .mv (.t 9)⟩, ⟨.some 16, .none, .mv (.t 10)⟩, ⟨.some 17, .none, .bin .lss (.t 15) (.t 16)⟩]) (.cond (.t 17) .skip (.exit 0))) (.block 1 (.seq (.rg false [⟨.some 18, .none, .mv (.t 9)⟩, ⟨.some 19, .none, .mv (.t 10)⟩, ⟨.some 20, .none, .bin .add (.t 18) (.t 19)⟩, ⟨.some 21, .none, .cvi .u64 (.t 20)⟩, ⟨.some 22, .none, .bin .shr (.t 21) (.c (.int .u64 1))⟩, ⟨.some 23, .none, .cvi .i64 (.t 22)⟩, ⟨.some 11, .none, .mv (.t 23)⟩]) (.seq (.rg false [⟨.some 24, .none, .mv (.t 2)⟩, ⟨.some 25, .none, .mv (.t 0)⟩, ⟨.some 26, .none, .mv (.t 11)⟩, ⟨.some 27, .none, .ia es (.t 25) (.t 26)⟩, ⟨.some 28, .none, .ld sz (.t 27)⟩, ⟨.some 29, .none, .mv (.t 1)⟩, ⟨.some 30, .none, .callv (.t 24) .pure [.t 28, .t 29]⟩, ⟨.some 31, .none, .bin .lss (.t 30) (.c (.int .i64 0))⟩]) (.cond (.t 31) (.rg false [⟨.some 32, .none, .mv (.t 11)⟩, ⟨.some 33, .none, .bin .add (.t 32) (.c (.int .i64 1))⟩, ⟨.some 9, .none, .mv (.t 33)⟩]) (.rg false [⟨.some 34, .none, .mv (.t 11)⟩, ⟨.some 10, .none, .mv (.t 34)⟩])))))))) (.seq (.rg false [⟨.some 35, .none, .mv (.t 9)⟩, ⟨.some 36, .none, .mv (.t 9)⟩, ⟨.some 37, .none, .mv (.t 8)⟩, ⟨.some 38, .none, .bin .lss (.t 36) (.t 37)⟩, ⟨.some 39, .none, .mv (.t 38)⟩, ⟨.some 40, .some (39, true), .mv (.t 2)⟩, ⟨.some 41, .some (39, true), .mv (.t 0)⟩, ⟨.some 42, .some (39, true), .mv (.t 9)⟩, ⟨.some 43, .some (39, true), .ia es (.t 41) (.t 42)⟩, ⟨.some 44, .some (39, true), .ld sz (.t 43)⟩, ⟨.some 45, .some (39, true), .mv (.t 1)⟩, ⟨.some 46, .some (39, true), .callv (.t 40) .pure [.t 44, .t 45]⟩, ⟨.some 47, .some (39, true), .bin .eql (.t 46) (.c (.int .i64 0))⟩, ⟨.some 48, .none, .pick (.t 39) (.t 47) (.c (.bool false))⟩, ⟨.some 6, .none, .mv (.t 35)⟩, ⟨.some 7, .none, .mv (.t 48)⟩]) .ret))))))
section
variable {env : Nat → Option Def} {fr : Fr} {σ σ' σ'' : St} {K : Fr → St → Prop} {Q : X → Fr → St → Prop} {p : PV} {bs : List UInt8}
theorem half {i j : Nat} (h : i + j ≤ 9223372036854775807) : IntKind.i64.wrap ((i : Int) + (j : Int)) = ((i + j : Nat) : Int) ∧ IntKind.u64.wrap ((i + j : Nat) : Int) = ((i + j : Nat) : Int) ∧
    pbin .shr (.int .u64 ((i + j : Nat) : Int)) (.int .u64 1) = some (.int .u64 (((i + j) / 2 : Nat) : Int)) ∧ IntKind.i64.wrap (((i + j) / 2 : Nat) : Int) = (((i + j) / 2 : Nat) : Int) := by
  refine ⟨by rw [IntKind.wrap_i64]; omega, ?_, ?_, by rw [IntKind.wrap_i64]; omega⟩
  · show ((i + j : Nat) : Int).emod (2 ^ 64) = _
    exact Int.emod_eq_of_lt (by omega) (by omega)
  · have e : (((i + j : Nat) : Int).fdiv (2 ^ (min (1 : Int).toNat IntKind.u64.bits))) = (((i + j) / 2 : Nat) : Int) := by
      rw [show min (1 : Int).toNat IntKind.u64.bits = 1 from rfl, Int.fdiv_eq_ediv_of_nonneg _ (by decide)]
      omega
    show (if (1 : Int) < 0 then none else some (Value.int .u64 (((i + j : Nat) : Int).fdiv (2 ^ (min (1 : Int).toNat IntKind.u64.bits))))) = _
    rw [if_neg (by decide), e]
theorem bsF_g {k0 es : Nat} {sz : Option Nat} (hk0 : env k0 = some (dBsF es sz)) {xs : List PV} {tg : PV} {k i0 : Nat} {a b : List PV} {c : Nat → Int} (hn : xs.length ≤ 4000000000000000000) (hE : Elems es sz xs)
    (hz : ∀ (i : Nat) e, xs[i]? = some e → ∀ σ, (a ++ [e, tg] ++ b).mapM (fz σ 12) = some (a ++ [e, tg] ++ b))
    (hq : ∀ (i : Nat) e, xs[i]? = some e → AV env k (a ++ [e, tg] ++ b) = some (.sc (.int .i64 (c i)))) (h0 : i0 ≤ xs.length) (hlo : ∀ i, i < i0 → c i < 0) (hhi : ∀ i, i0 ≤ i → i < xs.length → ¬ c i < 0) :
    AV env k0 [.sl xs, tg, .fn k a b] = some (.tu [.sc (.int .i64 (i0 : Int)), .sc (.bool (decide (i0 < xs.length) && (c i0 == 0)))]) := by
  refine AV_wp hk0 rfl ?_
  (repeat' first
    | refine w_seq ?_ | refine w_rg ?_ | refine wo_nil ?_ | refine g_skU ?_ | refine g_skT ?_ | refine g_skF ?_
    | ((first | apply s_plain | apply s_void | apply s_guard | apply g_goT | apply g_goF); · simp only [go_sem, Nat.reduceEqDiff, Nat.reduceAdd, Nat.reduceLeDiff]; (first | done | rfl))
    | ((first | apply g_T | apply g_F | apply g_gT | apply g_gF); · intro q1_; (first | intro q2_ | have q2_ := q1_); simp only [go_sem, Nat.reduceEqDiff, Nat.reduceAdd, Nat.reduceLeDiff, q1_, q2_]; (first | done | rfl))
    | (apply w_condX; · simp only [go_sem, Nat.reduceEqDiff, Nat.reduceAdd, Nat.reduceLeDiff]; (first | done | rfl)); (first | refine wcd_T ?_ | refine wcd_F ?_)
    | refine w_skip ?_ | refine w_exit ?_ | refine w_ret ?_
    | fail
    )
  refine w_block (w_loopF (fun m fr σ => ∃ i j : Nat, m = j - i ∧ i ≤ i0 ∧ i0 ≤ j ∧ j ≤ xs.length ∧ fr 9 = .sc (.int .i64 (i : Int)) ∧ fr 10 = .sc (.int .i64 (j : Int))) ?_ xs.length ?_)
  · rintro m fr1 σ1 ⟨i, j, rfl, hi, hj, hjn, f9, f10⟩ hfr
    have f0 := hfr 0 rfl
    have f1 := hfr 1 rfl
    have f2 := hfr 2 rfl
    have f8 := hfr 8 rfl
    simp only [go_sem, Nat.reduceEqDiff, Nat.reduceAdd, Nat.reduceLeDiff] at f0 f1 f2 f8
    by_cases hlt : i < j
    · have hd : decide ((i : Int) < (j : Int)) = true := by simp; omega
      obtain ⟨v1, v2, v3, v4⟩ := half (i := i) (j := j) (by omega)
      have hml : (i + j) / 2 < xs.length := by omega
      have hx := List.getElem?_eq_getElem hml
      obtain ⟨hc1, hc2⟩ := hE _ _ hx
      have hqx := hq _ _ hx
      have hzx := hz _ _ hx
      simp only [List.append_assoc, List.cons_append, List.nil_append] at hzx hqx
      have hh1 : i ≤ (i + j) / 2 := by omega
      have hh2 : (i + j) / 2 < j := by omega
      generalize xs[(i + j) / 2] = e at hx hc1 hc2 hqx hzx
      generalize (i + j) / 2 = h at v3 v4 hml hx hqx hh1 hh2
      have e1 : (0 : Int) ≤ (h : Int) ∧ (h : Int) < (xs.length : Int) := by omega
      (repeat' first
    | refine w_seq ?_ | refine w_rg ?_ | refine wo_nil ?_ | refine g_skU ?_ | refine g_skT ?_ | refine g_skF ?_
    | ((first | apply s_plain | apply s_void | apply s_guard | apply g_goT | apply g_goF); · simp only [go_sem, Nat.reduceEqDiff, Nat.reduceAdd, Nat.reduceLeDiff, f9, f10, hd]; (first | done | rfl))
    | ((first | apply g_T | apply g_F | apply g_gT | apply g_gF); · intro q1_; (first | intro q2_ | have q2_ := q1_); simp only [go_sem, Nat.reduceEqDiff, Nat.reduceAdd, Nat.reduceLeDiff, f9, f10, hd, q1_, q2_]; (first | done | rfl))
    | (apply w_condX; · simp only [go_sem, Nat.reduceEqDiff, Nat.reduceAdd, Nat.reduceLeDiff, f9, f10, hd]; (first | done | rfl)); (first | refine wcd_T ?_ | refine wcd_F ?_)
    | refine w_skip ?_ | refine w_exit ?_ | refine w_ret ?_
    | fail
    )
      refine w_block ?_
      (repeat' first
    | refine w_seq ?_ | refine w_rg ?_ | refine wo_nil ?_ | refine g_skU ?_ | refine g_skT ?_ | refine g_skF ?_
    | ((first | apply s_plain | apply s_void | apply s_guard | apply g_goT | apply g_goF); · simp only [go_sem, Nat.reduceEqDiff, Nat.reduceAdd, Nat.reduceLeDiff, f0, f1, f2, f9, f10, v1, v2, ↓v3, v4, e1, Int.toNat_natCast, hx, hc1]; (first | done | rfl))
    | ((first | apply g_T | apply g_F | apply g_gT | apply g_gF); · intro q1_; (first | intro q2_ | have q2_ := q1_); simp only [go_sem, Nat.reduceEqDiff, Nat.reduceAdd, Nat.reduceLeDiff, f0, f1, f2, f9, f10, v1, v2, ↓v3, v4, e1, Int.toNat_natCast, hx, hc1, q1_, q2_]; (first | done | rfl))
    | fail
    )
      refine s_plain (e_ldE _ _ _ _ _ _ (xs := xs) (i := h) (by simp only [go_sem, Nat.reduceEqDiff, Nat.reduceAdd, Nat.reduceLeDiff]) hx hc2) ?_
      (repeat' first
    | refine w_seq ?_ | refine w_rg ?_ | refine wo_nil ?_ | refine g_skU ?_ | refine g_skT ?_ | refine g_skF ?_
    | ((first | apply s_plain | apply s_void | apply s_guard | apply g_goT | apply g_goF); · simp only [go_sem, Nat.reduceEqDiff, Nat.reduceAdd, Nat.reduceLeDiff, f1, f2, List.append_assoc, hzx, hqx]; (first | done | rfl))
    | ((first | apply g_T | apply g_F | apply g_gT | apply g_gF); · intro q1_; (first | intro q2_ | have q2_ := q1_); simp only [go_sem, Nat.reduceEqDiff, Nat.reduceAdd, Nat.reduceLeDiff, f1, f2, List.append_assoc, hzx, hqx, q1_, q2_]; (first | done | rfl))
    | fail
    )
      by_cases hci : c h < 0
      · have hd2 : decide (c h < 0) = true := by simpa using hci
        have w1 : IntKind.i64.wrap ((h : Int) + 1) = ((h + 1 : Nat) : Int) := by rw [IntKind.wrap_i64]; omega
        (repeat' first
    | refine w_seq ?_ | refine w_rg ?_ | refine wo_nil ?_ | refine g_skU ?_ | refine g_skT ?_ | refine g_skF ?_
    | ((first | apply s_plain | apply s_void | apply s_guard | apply g_goT | apply g_goF); · simp only [go_sem, Nat.reduceEqDiff, Nat.reduceAdd, Nat.reduceLeDiff, hd2, w1]; (first | done | rfl))
    | ((first | apply g_T | apply g_F | apply g_gT | apply g_gF); · intro q1_; (first | intro q2_ | have q2_ := q1_); simp only [go_sem, Nat.reduceEqDiff, Nat.reduceAdd, Nat.reduceLeDiff, hd2, w1, q1_, q2_]; (first | done | rfl))
    | (apply w_condX; · simp only [go_sem, Nat.reduceEqDiff, Nat.reduceAdd, Nat.reduceLeDiff, hd2, w1]; (first | done | rfl)); (first | refine wcd_T ?_ | refine wcd_F ?_)
    | refine w_skip ?_ | refine w_exit ?_ | refine w_ret ?_
    | fail
    )
        try simp only [if_true]
        refine ⟨j - (h + 1), by omega, h + 1, j, rfl, ?_, hj, hjn, by simp only [go_sem, Nat.reduceEqDiff, Nat.reduceAdd, Nat.reduceLeDiff, w1], by simp only [go_sem, Nat.reduceEqDiff, Nat.reduceAdd, Nat.reduceLeDiff, f10]⟩
        rcases Nat.lt_or_ge h i0 with hlt2 | hge
        · exact hlt2
        · exact absurd hci (hhi h hge hml)
      · have hd2 : decide (c h < 0) = false := by simpa using hci
        (repeat' first
    | refine w_seq ?_ | refine w_rg ?_ | refine wo_nil ?_ | refine g_skU ?_ | refine g_skT ?_ | refine g_skF ?_
    | ((first | apply s_plain | apply s_void | apply s_guard | apply g_goT | apply g_goF); · simp only [go_sem, Nat.reduceEqDiff, Nat.reduceAdd, Nat.reduceLeDiff, hd2]; (first | done | rfl))
    | ((first | apply g_T | apply g_F | apply g_gT | apply g_gF); · intro q1_; (first | intro q2_ | have q2_ := q1_); simp only [go_sem, Nat.reduceEqDiff, Nat.reduceAdd, Nat.reduceLeDiff, hd2, q1_, q2_]; (first | done | rfl))
    | (apply w_condX; · simp only [go_sem, Nat.reduceEqDiff, Nat.reduceAdd, Nat.reduceLeDiff, hd2]; (first | done | rfl)); (first | refine wcd_T ?_ | refine wcd_F ?_)
    | refine w_skip ?_ | refine w_exit ?_ | refine w_ret ?_
    | fail
    )
        try simp only [if_true]
        refine ⟨h - i, by omega, i, h, rfl, hi, ?_, by omega, by simp only [go_sem, Nat.reduceEqDiff, Nat.reduceAdd, Nat.reduceLeDiff, f9], by simp only [go_sem, Nat.reduceEqDiff, Nat.reduceAdd, Nat.reduceLeDiff]⟩
        rcases Nat.lt_or_ge h i0 with hlt2 | hge
        · exact absurd (hlo h hlt2) hci
        · exact hge
    · have hij : i = i0 := by omega
      subst hij
      have hd : decide ((i : Int) < (j : Int)) = false := by simp; omega
      (repeat' first
    | refine w_seq ?_ | refine w_rg ?_ | refine wo_nil ?_ | refine g_skU ?_ | refine g_skT ?_ | refine g_skF ?_
    | ((first | apply s_plain | apply s_void | apply s_guard | apply g_goT | apply g_goF); · simp only [go_sem, Nat.reduceEqDiff, Nat.reduceAdd, Nat.reduceLeDiff, f9, f10, hd]; (first | done | rfl))
    | ((first | apply g_T | apply g_F | apply g_gT | apply g_gF); · intro q1_; (first | intro q2_ | have q2_ := q1_); simp only [go_sem, Nat.reduceEqDiff, Nat.reduceAdd, Nat.reduceLeDiff, f9, f10, hd, q1_, q2_]; (first | done | rfl))
    | (apply w_condX; · simp only [go_sem, Nat.reduceEqDiff, Nat.reduceAdd, Nat.reduceLeDiff, f9, f10, hd]; (first | done | rfl)); (first | refine wcd_T ?_ | refine wcd_F ?_)
    | refine w_skip ?_ | refine w_exit ?_ | refine w_ret ?_
    | fail
    )
      try simp only [if_true]
      try show Wp _ _ _ _ _
      by_cases hin : i < xs.length
      · have hd3 : decide ((i : Int) < (xs.length : Int)) = true := by simp; omega
        have hd4 : decide (i < xs.length) = true := by simpa using hin
        have hx := List.getElem?_eq_getElem hin
        obtain ⟨hc1, hc2⟩ := hE _ _ hx
        have hqx := hq _ _ hx
        have hzx := hz _ _ hx
        simp only [List.append_assoc, List.cons_append, List.nil_append] at hzx hqx
        generalize xs[i] = e at hx hc1 hc2 hqx hzx
        have e1 : (0 : Int) ≤ (i : Int) ∧ (i : Int) < (xs.length : Int) := by omega
        rw [hd4]
        (repeat' first
    | refine w_seq ?_ | refine w_rg ?_ | refine wo_nil ?_ | refine g_skU ?_ | refine g_skT ?_ | refine g_skF ?_
    | ((first | apply s_plain | apply s_void | apply s_guard | apply g_goT | apply g_goF); · simp only [go_sem, Nat.reduceEqDiff, Nat.reduceAdd, Nat.reduceLeDiff, f0, f1, f2, f8, f9, f10, hd3, e1, Int.toNat_natCast, hx, hc1]; (first | done | rfl))
    | ((first | apply g_T | apply g_F | apply g_gT | apply g_gF); · intro q1_; (first | intro q2_ | have q2_ := q1_); simp only [go_sem, Nat.reduceEqDiff, Nat.reduceAdd, Nat.reduceLeDiff, f0, f1, f2, f8, f9, f10, hd3, e1, Int.toNat_natCast, hx, hc1, q1_, q2_]; (first | done | rfl))
    | fail
    )
        refine g_goT (e_ldE _ _ _ _ _ _ (xs := xs) (i := i) (by simp only [go_sem, Nat.reduceEqDiff, Nat.reduceAdd, Nat.reduceLeDiff]) hx hc2) ?_
        (repeat' first
    | refine w_seq ?_ | refine w_rg ?_ | refine wo_nil ?_ | refine g_skU ?_ | refine g_skT ?_ | refine g_skF ?_
    | ((first | apply s_plain | apply s_void | apply s_guard | apply g_goT | apply g_goF); · simp only [go_sem, Nat.reduceEqDiff, Nat.reduceAdd, Nat.reduceLeDiff, f1, f2, List.append_assoc, hzx, hqx]; (first | done | rfl))
    | ((first | apply g_T | apply g_F | apply g_gT | apply g_gF); · intro q1_; (first | intro q2_ | have q2_ := q1_); simp only [go_sem, Nat.reduceEqDiff, Nat.reduceAdd, Nat.reduceLeDiff, f1, f2, List.append_assoc, hzx, hqx, q1_, q2_]; (first | done | rfl))
    | (apply w_condX; · simp only [go_sem, Nat.reduceEqDiff, Nat.reduceAdd, Nat.reduceLeDiff, f1, f2, List.append_assoc, hzx, hqx]; (first | done | rfl)); (first | refine wcd_T ?_ | refine wcd_F ?_)
    | refine w_skip ?_ | refine w_exit ?_ | refine w_ret ?_
    | fail
    )
        exact ⟨by first | exact .inr rfl | exact .inr trivial | exact .inl rfl, by simp only [go_sem, Nat.reduceEqDiff, Nat.reduceAdd, Nat.reduceLeDiff, retOf, resOf]; first | done | rfl⟩
      · have hd3 : decide ((i : Int) < (xs.length : Int)) = false := by simp; omega
        have hd4 : decide (i < xs.length) = false := by simpa using hin
        rw [hd4]
        (repeat' first
    | refine w_seq ?_ | refine w_rg ?_ | refine wo_nil ?_ | refine g_skU ?_ | refine g_skT ?_ | refine g_skF ?_
    | ((first | apply s_plain | apply s_void | apply s_guard | apply g_goT | apply g_goF); · simp only [go_sem, Nat.reduceEqDiff, Nat.reduceAdd, Nat.reduceLeDiff, f0, f1, f2, f8, f9, f10, hd3]; (first | done | rfl))
    | ((first | apply g_T | apply g_F | apply g_gT | apply g_gF); · intro q1_; (first | intro q2_ | have q2_ := q1_); simp only [go_sem, Nat.reduceEqDiff, Nat.reduceAdd, Nat.reduceLeDiff, f0, f1, f2, f8, f9, f10, hd3, q1_, q2_]; (first | done | rfl))
    | (apply w_condX; · simp only [go_sem, Nat.reduceEqDiff, Nat.reduceAdd, Nat.reduceLeDiff, f0, f1, f2, f8, f9, f10, hd3]; (first | done | rfl)); (first | refine wcd_T ?_ | refine wcd_F ?_)
    | refine w_skip ?_ | refine w_exit ?_ | refine w_ret ?_
    | fail
    )
        exact ⟨by first | exact .inr rfl | exact .inr trivial | exact .inl rfl, by simp only [go_sem, Nat.reduceEqDiff, Nat.reduceAdd, Nat.reduceLeDiff, retOf, resOf]; first | done | rfl⟩
  · exact ⟨0, xs.length, by omega, by omega, h0, Nat.le_refl _, by simp only [go_sem, Nat.reduceEqDiff, Nat.reduceAdd, Nat.reduceLeDiff]; first | done | rfl, by simp only [go_sem, Nat.reduceEqDiff, Nat.reduceAdd, Nat.reduceLeDiff]⟩
end

end
section
attribute [local go_sem ↓] e_mv e_pick e_bin e_eqs e_beq e_un e_cvi e_str e_s2b e_b2s e_box e_build e_bsl e_ld e_st e_nck e_mkf e_slcS e_slcL e_fa e_fld e_ia e_iaa e_ix e_ixa e_ext e_lenS e_lenL e_mnmx e_app e_appb e_bbx e_msl e_clr e_call e_callv e_icall e_slcA e_mkm e_mput e_mget e_mlen e_mdel pa_t pa_c pa_f slcSP_str hiOf_some hiOf_none loOf_some loOf_none set_eq set_ne
attribute [local go_sem] pv pv1 simple frOf_0 frOf_1 frOf_2 frOf_3 frOf_4 frOf_5 ne_eq not_false_eq_true if_true Bool.false_eq_true if_false pbin punary Option.map_some Option.bind_some pick_and pick_or opt_true Bool.true_and Bool.and_self Bool.and_true Bool.true_or Bool.false_or Bool.not_true Bool.not_false callE pcall_eq List.map_cons List.map_nil List.append_nil List.nil_append List.cons_append mapM_cons' mapM_nil' dep_eq fz_sc fz_sl fz_em fz_fn fz_fp fz_agg fz_tu fz_bx fz_ob Nat.lt_irrefl Nat.zero_lt_one Nat.lt_add_one flat clL cl Bool.or_true okc_sc okc_em okc_sl okc_ob okc_bx okc_fp okc_fn okc_agg okc_ifc cells_agg cells_sc cells_sl cells_em cells_ob cells_fn cells_bx cells_fp List.length_cons List.length_nil Nat.zero_add and_self true_and and_true new_m new_c put_m put_c nil_m nil_c nil_mm new_mm put_mm newM_m newM_c newM_mm putM_m putM_c putM_mm mkeyV_1 mkeyV_2 mapAt_eq deref List.getElem?_cons_zero List.getElem?_cons_succ List.drop_zero List.drop_succ_cons List.take_succ_cons List.take_zero Nat.le_refl false_and and_false decide_true decide_false lenP_em lenP_nil lenP_sl lenP_ob Int.ofNat_zero
section
variable {env : Nat → Option Def} {fr : Fr} {σ σ' σ'' : St} {K : Fr → St → Prop} {Q : X → Fr → St → Prop} {p : PV} {bs : List UInt8}
def wordC (c : UInt8) : Bool := (decide (97 ≤ c.toNat) && decide (c.toNat ≤ 122)) || (decide (48 ≤ c.toNat) && decide (c.toNat ≤ 57)) || decide (c.toNat = 95)
def wordD (l : List UInt8) : Bool := !l.isEmpty && decide (l.length ≤ 64) && l.all wordC
end

def d69 : Def := (.code 1 [.tmp 2] (.seq (.rg false [⟨.some 2, .none, .mv (.c (.bool false))⟩]) (.seq (.rg false [⟨.some 3, .none, .mv (.t 0)⟩, ⟨.some 4, .none, .bin .lss (.t 3) (.c (.int .u8 32))⟩, ⟨.some 5, .none, .mv (.t 4)⟩, ⟨.some 6, .some (5, false), .mv (.t 0)⟩, ⟨.some 7, .some (5, false), .bin .gtr (.t 6) (.c (.int .u8 126))⟩, ⟨.some 8, .none, .pick (.t 5) (.c (.bool true)) (.t 7)⟩, ⟨.some 9, .none, .mv (.t 8)⟩, ⟨.some 10, .some (9, false), .mv (.t 0)⟩, ⟨.some 11, .some (9, false), .bin .eql (.t 10) (.c (.int .u8 59))⟩, ⟨.some 12, .none, .pick (.t 9) (.c (.bool true)) (.t 11)⟩, ⟨.some 2, .none, .mv (.t 12)⟩]) .ret)))
def d53 : Def := (.code 1 [.tmp 2] (.seq (.rg false [⟨.some 2, .none, .mv (.c (.bool false))⟩]) (.seq (.rg false [⟨.some 3, .none, .mv (.f 69)⟩]) (.seq (.rg false [⟨.some 4, .none, .mv (.t 0)⟩, ⟨.some 5, .none, .bin .neq (.t 4) (.c (.string ⟨#[]⟩))⟩, ⟨.some 6, .none, .mv (.t 5)⟩, ⟨.some 7, .some (6, true), .mv (.t 0)⟩, ⟨.some 8, .some (6, true), .lenS (.t 7)⟩, ⟨.some 9, .some (6, true), .bin .leq (.t 8) (.c (.int .i64 200))⟩, ⟨.some 10, .none, .pick (.t 6) (.t 9) (.c (.bool false))⟩, ⟨.some 11, .none, .mv (.t 10)⟩, ⟨.some 12, .some (11, true), .mv (.t 0)⟩, ⟨.some 13, .some (11, true), .call 70 .pure [.t 12, .c (.string ⟨#[32]⟩)]⟩, ⟨.some 14, .some (11, true), .mv (.t 0)⟩, ⟨.some 15, .some (11, true), .bin .eql (.t 13) (.t 14)⟩, ⟨.some 16, .none, .pick (.t 11) (.t 15) (.c (.bool false))⟩, ⟨.some 17, .none, .mv (.t 16)⟩, ⟨.some 18, .some (17, true), .mv (.t 0)⟩, ⟨.some 19, .some (17, true), .s2b (.t 18)⟩, ⟨.some 20, .some (17, true), .mv (.t 3)⟩, ⟨.some 21, .some (17, true), .call 67 .pure [.t 19, .t 20]⟩, ⟨.some 22, .some (17, true), .un .not (.t 21)⟩, ⟨.some 23, .none, .pick (.t 17) (.t 22) (.c (.bool false))⟩, ⟨.some 2, .none, .mv (.t 23)⟩]) .ret))))
def lda : List (Nat × Def) := [(69, d69), (53, d53), (70, .prim (pureF trimV))]
section
variable {env : Nat → Option Def} {fr : Fr} {σ σ' σ'' : St} {K : Fr → St → Prop} {Q : X → Fr → St → Prop} {p : PV} {bs : List UInt8}
def valC (c : UInt8) : Bool := decide (32 ≤ c.toNat) && decide (c.toNat ≤ 126) && decide (c.toNat ≠ 59)
def valD (l : List UInt8) : Bool := !l.isEmpty && decide (l.length ≤ 200) && decide (Lib.trimS l [32] = l) && l.all valC
theorem byteAt_txt {l : List UInt8} {i : Nat} {c : UInt8} (h : l[i]? = some c) : byteAt ⟨l.toArray⟩ i = (c.toNat : Int) := by
  unfold byteAt
  rw [List.toList_toArray, h]
theorem any_not {α : Type} (l : List α) (f g : α → Bool) (h : ∀ x, g x = !f x) : l.any g = !l.all f := by
  rw [Bool.eq_iff_iff]
  simp [h]
theorem ba_nil : (⟨#[]⟩ : ByteArray).toList = [] := ba_toList []
theorem empty_txt (l : List UInt8) : (l == []) = l.isEmpty := by cases l <;> rfl
theorem a49t (H : Has law env) {l : List UInt8} (hn : l.length ≤ 4000000000) : AV env 49 [txt l] = some (.sc (.bool (wordD l))) := by
  have h := a49 H (s := ⟨l.toArray⟩) (by rw [ba_size]; omega)
  rw [h]
  have e : hasB oddW ⟨l.toArray⟩ = !l.all wordC := by
    unfold hasB
    rw [ba_size, found_any (l := l) (f := fun c => !wordC c) (fun i c hc => by
      rw [byteAt_txt hc]
      unfold oddW wordC
      rw [Bool.eq_iff_iff]
      simp
      omega)]
    exact any_not l wordC _ fun _ => rfl
  unfold wordB wordD
  rw [e, ba_size, ba_toList, ba_nil, empty_txt]
  congr 3
  rw [Bool.not_not]
  congr 2
  rw [Bool.eq_iff_iff]
  simp
  omega
theorem a69 (D : Has lda env) (c : Int) : AV env 69 [.sc (.int .u8 c)] = some (.sc (.bool (decide (c < 32) || decide (c > 126) || (c == 59)))) := by
  refine AV_wp (D (69, d69) (by simp [lda])) rfl ?_
  (repeat' first
    | refine w_seq ?_ | refine w_rg ?_ | refine wo_nil ?_ | refine g_skU ?_ | refine g_skT ?_ | refine g_skF ?_
    | ((first | apply s_plain | apply s_void | apply s_guard | apply g_goT | apply g_goF); · simp only [go_sem, Nat.reduceEqDiff, Nat.reduceAdd, Nat.reduceLeDiff]; (first | done | rfl))
    | ((first | apply g_T | apply g_F | apply g_gT | apply g_gF); · intro q1_; (first | intro q2_ | have q2_ := q1_); simp only [go_sem, Nat.reduceEqDiff, Nat.reduceAdd, Nat.reduceLeDiff, q1_, q2_]; (first | done | rfl))
    | (apply w_condX; · simp only [go_sem, Nat.reduceEqDiff, Nat.reduceAdd, Nat.reduceLeDiff]; (first | done | rfl)); (first | refine wcd_T ?_ | refine wcd_F ?_)
    | refine w_skip ?_ | refine w_exit ?_ | refine w_ret ?_
    | fail
    )
  exact ⟨by first | exact .inr rfl | exact .inr trivial | exact .inl rfl, by simp only [go_sem, Nat.reduceEqDiff, Nat.reduceAdd, Nat.reduceLeDiff, retOf, resOf]; first | done | rfl⟩
theorem a70 (D : Has lda env) {s t : List UInt8} (hs : s.length ≤ 4000000000) (ht : t.length ≤ 4000000000) (ha : (t.all fun b => decide (b.toNat < 128)) = true) : AV env 70 [txt s, txt t] = some (txt (Lib.trimS s t)) := by
  have h := D (70, .prim (pureF trimV)) (by simp [lda])
  refine AV_of (σ := St.nil) (r := txt (Lib.trimS s t)) ?_ rfl
  rw [EV_prim h]
  have hc : trimC ⟨s.toArray⟩ ⟨t.toArray⟩ = true := by
    unfold trimC
    rw [ba_size, ba_size, List.toList_toArray, ha]
    simp; omega
  simp only [pureF, mapM_cons', mapM_nil', scOf, Option.bind_some, trimV, str2V, hc, if_true, List.toList_toArray, Option.map_some]
theorem a53 (A : Has law env) (D : Has lda env) {l : List UInt8} (hn : l.length ≤ 4000000000) : AV env 53 [txt l] = some (.sc (.bool (valD l))) := by
  have h67 := a67b (law_lax A) (s := ⟨l.toArray⟩) (k := 69) (by rw [ba_size]; omega) (a69 D)
  have h70 := a70 D (s := l) (t := [32]) hn (by simp) (by decide)
  have e : decide (found (fun i => decide (byteAt ⟨l.toArray⟩ i < 32) || decide (byteAt ⟨l.toArray⟩ i > 126) || (byteAt ⟨l.toArray⟩ i == 59)) (⟨l.toArray⟩ : ByteArray).size ≥ 0) = !l.all valC := by
    rw [ba_size, found_any (l := l) (f := fun c => !valC c) (fun i c hc => by
      rw [byteAt_txt hc]
      unfold valC
      rw [Bool.eq_iff_iff]
      simp
      omega)]
    exact any_not l valC _ fun _ => rfl
  rw [e] at h67
  refine AV_wp (D (53, d53) (by simp [lda])) rfl ?_
  (repeat' first
    | refine w_seq ?_ | refine w_rg ?_ | refine wo_nil ?_ | refine g_skU ?_ | refine g_skT ?_ | refine g_skF ?_
    | ((first | apply s_plain | apply s_void | apply s_guard | apply g_goT | apply g_goF); · simp only [go_sem, Nat.reduceEqDiff, Nat.reduceAdd, Nat.reduceLeDiff, h67, h70, ba_data, ba_size, ba_toList, ba_extract, ba_append, List.toList_toArray, ba_nil]; (first | done | rfl))
    | ((first | apply g_T | apply g_F | apply g_gT | apply g_gF); · intro q1_; (first | intro q2_ | have q2_ := q1_); simp only [go_sem, Nat.reduceEqDiff, Nat.reduceAdd, Nat.reduceLeDiff, h67, h70, ba_data, ba_size, ba_toList, ba_extract, ba_append, List.toList_toArray, ba_nil, q1_, q2_]; (first | done | rfl))
    | (apply w_condX; · simp only [go_sem, Nat.reduceEqDiff, Nat.reduceAdd, Nat.reduceLeDiff, h67, h70, ba_data, ba_size, ba_toList, ba_extract, ba_append, List.toList_toArray, ba_nil]; (first | done | rfl)); (first | refine wcd_T ?_ | refine wcd_F ?_)
    | refine w_skip ?_ | refine w_exit ?_ | refine w_ret ?_
    | fail
    )
  have ee : ((!(l == [])) && decide ((l.length : Int) ≤ 200) && (Lib.trimS l [32] == l) && !!l.all valC) = valD l := by
    unfold valD
    rw [empty_txt, Bool.not_not]
    congr 2
    · congr 1
      rw [Bool.eq_iff_iff]; simp; omega
    · rw [Bool.eq_iff_iff]; simp
  exact ⟨by first | exact .inr rfl | exact .inr trivial | exact .inl rfl, by simp only [go_sem, Nat.reduceEqDiff, Nat.reduceAdd, Nat.reduceLeDiff, retOf, resOf, ee]; first | done | rfl⟩
end

def d37 : Def := (.code 2 [.tmp 4] (.seq (.rg false [⟨.some 4, .none, .mv (.c (.int .i64 0))⟩]) (.seq (.seq (.rg false [⟨.some 6, .none, .mv (.t 0)⟩, ⟨.some 7, .none, .lenL (.t 6)⟩, ⟨.some 8, .none, .mv (.c (.int .i64 0))⟩]) (.block 0 (.loop (.seq (.rg false [⟨.some 9, .none, .bin .lss (.t 8) (.t 7)⟩]) (.seq (.cond (.t 9) .skip (.exit 0)) (.seq (.block 1 (.seq (.rg false [⟨.some 10, .none, .mv (.t 8)⟩, ⟨.some 5, .none, .mv (.t 10)⟩]) (.seq (.rg false [⟨.some 11, .none, .mv (.t 1)⟩, ⟨.some 12, .none, .mv (.t 0)⟩, ⟨.some 13, .none, .mv (.t 5)⟩, ⟨.some 14, .none, .ia 1 (.t 12) (.t 13)⟩, ⟨.some 15, .none, .ld .none (.t 14)⟩, ⟨.some 16, .none, .bin .eql (.t 11) (.t 15)⟩]) (.cond (.t 16) (.seq (.rg false [⟨.some 17, .none, .mv (.t 5)⟩, ⟨.some 4, .none, .mv (.t 17)⟩]) .ret) .skip)))) (.rg false [⟨.some 18, .none, .bin .add (.t 8) (.c (.int .i64 1))⟩, ⟨.some 8, .none, .mv (.t 18)⟩]))))))) (.seq (.rg false [⟨.some 4, .none, .mv (.c (.int .i64 (-1)))⟩]) .ret))))
def d50 : Def := (.code 2 [.tmp 4] (.seq (.rg false [⟨.some 4, .none, .mv (.c (.bool false))⟩]) (.seq (.rg false [⟨.some 5, .none, .mv (.t 0)⟩, ⟨.some 6, .none, .mv (.t 1)⟩, ⟨.some 7, .none, .call 37 .pure [.t 5, .t 6]⟩, ⟨.some 8, .none, .bin .geq (.t 7) (.c (.int .i64 0))⟩, ⟨.some 4, .none, .mv (.t 8)⟩]) .ret)))
def d52 : Def := (.code 1 [.tmp 2] (.seq (.rg false [⟨.some 2, .none, .mv (.c (.bool false))⟩]) (.seq (.rg false [⟨.some 3, .none, .mv (.t 0)⟩, ⟨.some 4, .none, .call 53 .pure [.t 3]⟩, ⟨.some 5, .none, .un .not (.t 4)⟩, ⟨.some 2, .none, .mv (.t 5)⟩]) .ret)))
def d29 : Def := (.code 1 [.tmp 2] (.seq (.rg false [⟨.some 1, .none, .box (.t 0)⟩, ⟨.some 2, .none, .mv (.c (.bool false))⟩]) (.seq (.seq (.rg false [⟨.some 5, .none, .fa 1 (.t 1)⟩, ⟨.some 6, .none, .ld .none (.t 5)⟩, ⟨.some 7, .none, .lenL (.t 6)⟩, ⟨.some 8, .none, .mv (.c (.int .i64 0))⟩]) (.block 0 (.loop (.seq (.rg false [⟨.some 9, .none, .bin .lss (.t 8) (.t 7)⟩]) (.seq (.cond (.t 9) .skip (.exit 0)) (.seq (.block 1 (.seq (.rg false [⟨.some 10, .none, .mv (.t 8)⟩, ⟨.some 11, .none, .ia 1 (.t 6) (.t 8)⟩, ⟨.some 12, .none, .ld .none (.t 11)⟩, ⟨.some 3, .none, .mv (.t 10)⟩, ⟨.some 4, .none, .mv (.t 12)⟩]) (.seq (.rg false [⟨.some 13, .none, .mv (.t 4)⟩, ⟨.some 14, .none, .call 49 .pure [.t 13]⟩, ⟨.some 15, .none, .un .not (.t 14)⟩, ⟨.some 16, .none, .mv (.t 15)⟩, ⟨.some 17, .some (16, false), .fa 1 (.t 1)⟩, ⟨.some 18, .some (16, false), .ld .none (.t 17)⟩, ⟨.some 19, .some (16, false), .mv (.t 3)⟩, ⟨.some 20, .some (16, false), .slcL 1 (.t 18) .none (.some (.t 19))⟩, ⟨.some 21, .some (16, false), .mv (.t 4)⟩, ⟨.some 22, .some (16, false), .call 50 .pure [.t 20, .t 21]⟩, ⟨.some 23, .none, .pick (.t 16) (.c (.bool true)) (.t 22)⟩]) (.cond (.t 23) (.seq (.rg false [⟨.some 2, .none, .mv (.c (.bool false))⟩]) .ret) .skip)))) (.rg false [⟨.some 24, .none, .bin .add (.t 8) (.c (.int .i64 1))⟩, ⟨.some 8, .none, .mv (.t 24)⟩]))))))) (.seq (.rg false [⟨.some 25, .none, .fa 0 (.t 1)⟩, ⟨.some 26, .none, .ld .none (.t 25)⟩, ⟨.some 27, .none, .call 49 .pure [.t 26]⟩, ⟨.some 28, .none, .mv (.t 27)⟩, ⟨.some 29, .some (28, true), .fa 1 (.t 1)⟩, ⟨.some 30, .some (28, true), .ld .none (.t 29)⟩, ⟨.some 31, .some (28, true), .lenL (.t 30)⟩, ⟨.some 32, .some (28, true), .bin .leq (.t 31) (.c (.int .i64 64))⟩, ⟨.some 33, .none, .pick (.t 28) (.t 32) (.c (.bool false))⟩, ⟨.some 34, .none, .mv (.t 33)⟩, ⟨.some 35, .some (34, true), .fa 1 (.t 1)⟩, ⟨.some 36, .some (34, true), .ld .none (.t 35)⟩, ⟨.some 37, .some (34, true), .lenL (.t 36)⟩, ⟨.some 38, .some (34, true), .fa 2 (.t 1)⟩, ⟨.some 39, .some (34, true), .ld .none (.t 38)⟩, ⟨.some 40, .some (34, true), .lenL (.t 39)⟩, ⟨.some 41, .some (34, true), .bin .eql (.t 37) (.t 40)⟩, ⟨.some 42, .none, .pick (.t 34) (.t 41) (.c (.bool false))⟩, ⟨.some 43, .none, .mv (.t 42)⟩, ⟨.some 44, .some (43, true), .fa 2 (.t 1)⟩, ⟨.some 45, .some (43, true), .ld .none (.t 44)⟩, ⟨.some 46, .some (43, true), .call 51 .pure [.t 45, .f 52]⟩, ⟨.some 47, .some (43, true), .un .not (.t 46)⟩, ⟨.some 48, .none, .pick (.t 43) (.t 47) (.c (.bool false))⟩, ⟨.some 2, .none, .mv (.t 48)⟩]) .ret))))
def d28 : Def := (.code 1 [.tmp 2] (.seq (.rg false [⟨.some 1, .none, .box (.t 0)⟩, ⟨.some 2, .none, .mv (.c (.bool false))⟩]) (.seq (.rg false [⟨.some 3, .none, .ld (.some 3) (.t 1)⟩, ⟨.some 4, .none, .call 29 .pure [.t 3]⟩, ⟨.some 5, .none, .un .not (.t 4)⟩, ⟨.some 2, .none, .mv (.t 5)⟩]) .ret)))
def d9 : Def := (.code 1 [.tmp 2] (.seq (.rg false [⟨.some 2, .none, .mv (.c (.bool false))⟩]) (.seq (.rg false [⟨.some 3, .none, .mv (.t 0)⟩, ⟨.some 4, .none, .lenL (.t 3)⟩, ⟨.some 5, .none, .bin .leq (.t 4) (.c (.int .i64 64))⟩, ⟨.some 6, .none, .mv (.t 5)⟩, ⟨.some 7, .some (6, true), .mv (.t 0)⟩, ⟨.some 8, .some (6, true), .call 27 .pure [.t 7, .f 28]⟩, ⟨.some 9, .some (6, true), .un .not (.t 8)⟩, ⟨.some 10, .none, .pick (.t 6) (.t 9) (.c (.bool false))⟩, ⟨.some 2, .none, .mv (.t 10)⟩]) .ret)))
def ldb : List (Nat × Def) := [(37, d37), (50, d50)]
def ldc : List (Nat × Def) := [(68, dIdxF 1 none), (51, dConF 68), (52, d52), (29, d29), (28, d28), (48, dIdxF 3 (some 3)), (27, dConF 48), (9, d9)]
def txts (l : List (List UInt8)) : List PV := l.map txt
structure Df where
  ty : List UInt8
  ks : List (List UInt8)
  vs : List (List UInt8)
  deriving DecidableEq
def df (d : Df) : PV := .agg [txt d.ty, .sl (txts d.ks), .sl (txts d.vs)]
def dfs (l : List Df) : List PV := l.map df
def SmT (l : List UInt8) : Prop := l.length ≤ 4000000000
structure Df.Sm (d : Df) : Prop where
  ty : SmT d.ty
  ks : d.ks.length ≤ 4000000000 ∧ ∀ k ∈ d.ks, SmT k
  vs : d.vs.length ≤ 4000000000 ∧ ∀ v ∈ d.vs, SmT v
section
variable {env : Nat → Option Def} {fr : Fr} {σ σ' σ'' : St} {K : Fr → St → Prop} {Q : X → Fr → St → Prop} {p : PV} {bs : List UInt8}
theorem txts_len (l : List (List UInt8)) : (txts l).length = l.length := by simp [txts]
theorem txts_at {l : List (List UInt8)} {i : Nat} {s : List UInt8} (h : l[i]? = some s) : (txts l)[i]? = some (txt s) := by simp [txts, h]
theorem txts_all (l : List (List UInt8)) : (txts l).all (fun x => (cellsOf x).length == 1) = true := by
  rw [List.all_eq_true]
  intro x hx
  simp only [txts, List.mem_map] at hx
  obtain ⟨m, _, rfl⟩ := hx
  rfl
theorem txts_fz (σ : St) (d : Nat) (l : List (List UInt8)) : (txts l).mapM (fz σ (d + 1)) = some (txts l) := by
  induction l with
  | nil => rfl
  | cons m r ih =>
    show List.mapM (fz σ (d + 1)) (txt m :: txts r) = _
    rw [mapM_cons', ih]
    rfl
theorem txts_elems (l : List (List UInt8)) : Elems 1 none (txts l) := fun i e h => by
  simp only [txts, List.getElem?_map] at h
  obtain ⟨s, _, rfl⟩ := Option.map_eq_some_iff.1 h
  exact ⟨rfl, rfl⟩
theorem dfs_len (l : List Df) : (dfs l).length = l.length := by simp [dfs]
theorem dfs_elems (l : List Df) : Elems 3 (some 3) (dfs l) := fun i e h => by
  simp only [dfs, List.getElem?_map] at h
  obtain ⟨s, _, rfl⟩ := Option.map_eq_some_iff.1 h
  exact ⟨rfl, rfl⟩
theorem slcLP_sl (es : Nat) (fr : Fr) (xs : List PV) (lo hi : Option PA) : slcLP es fr (.sl xs) lo hi = if xs.all (fun x => (cellsOf x).length == es) then (hiOf xs.length fr hi).bind fun h => (loOf h fr lo).bind fun l => some (.sl ((xs.take h).drop l)) else none := rfl
def idxT (l : List (List UInt8)) (s : List UInt8) : Int := found (fun i => l[i]? == some s) l.length
theorem a37t (B : Has ldb env) {l : List (List UInt8)} (hn : l.length ≤ 9223372036854775807) (s : List UInt8) : AV env 37 [.sl (txts l), txt s] = some (.sc (.int .i64 (idxT l s))) := by
  refine AV_wp (B (37, d37) (by simp [ldb])) rfl ?_
  have hll := txts_len l
  (repeat' first
    | refine w_seq ?_ | refine w_rg ?_ | refine wo_nil ?_ | refine g_skU ?_ | refine g_skT ?_ | refine g_skF ?_
    | ((first | apply s_plain | apply s_void | apply s_guard | apply g_goT | apply g_goF); · simp only [go_sem, Nat.reduceEqDiff, Nat.reduceAdd, Nat.reduceLeDiff, hll]; (first | done | rfl))
    | ((first | apply g_T | apply g_F | apply g_gT | apply g_gF); · intro q1_; (first | intro q2_ | have q2_ := q1_); simp only [go_sem, Nat.reduceEqDiff, Nat.reduceAdd, Nat.reduceLeDiff, hll, q1_, q2_]; (first | done | rfl))
    | fail
    )
  refine w_block (w_rangeF l.length hn (fun i fr σ => ∀ j, j < i → (l[j]? == some s) = false) ⟨by decide, rfl, rfl⟩ (fun _ _ _ _ h => ⟨h, h, h⟩) (fun j hj => by omega) (by simp only [go_sem, Nat.reduceEqDiff, Nat.reduceAdd, Nat.reduceLeDiff]; first | done | rfl) (by simp only [go_sem, Nat.reduceEqDiff, Nat.reduceAdd, Nat.reduceLeDiff, hll]; first | done | rfl) ?_ ?_)
  · rintro i fr1 σ1 hi h3 hti hfr
    have f0_0 := hfr 0 rfl; have f0_1 := hfr 1 rfl; have f0_7 := hfr 7 rfl; try (simp only [go_sem, Nat.reduceEqDiff, Nat.reduceAdd, Nat.reduceLeDiff] at f0_0); try (simp only [go_sem, Nat.reduceEqDiff, Nat.reduceAdd, Nat.reduceLeDiff] at f0_1); try (simp only [go_sem, Nat.reduceEqDiff, Nat.reduceAdd, Nat.reduceLeDiff] at f0_7)
    have hq := List.getElem?_eq_getElem hi
    have hx := txts_at hq
    have e1 : (0 : Int) ≤ (i : Int) ∧ (i : Int) < (l.length : Int) := by omega
    refine w_block ?_
    (repeat' first
    | refine w_seq ?_ | refine w_rg ?_ | refine wo_nil ?_ | refine g_skU ?_ | refine g_skT ?_ | refine g_skF ?_
    | ((first | apply s_plain | apply s_void | apply s_guard | apply g_goT | apply g_goF); · simp only [go_sem, Nat.reduceEqDiff, Nat.reduceAdd, Nat.reduceLeDiff, f0_0, f0_1, f0_7, hti, e1, hll, Int.toNat_natCast, hx, ba_data, ba_size, ba_toList, ba_extract, ba_append, List.toList_toArray]; (first | done | rfl))
    | ((first | apply g_T | apply g_F | apply g_gT | apply g_gF); · intro q1_; (first | intro q2_ | have q2_ := q1_); simp only [go_sem, Nat.reduceEqDiff, Nat.reduceAdd, Nat.reduceLeDiff, f0_0, f0_1, f0_7, hti, e1, hll, Int.toNat_natCast, hx, ba_data, ba_size, ba_toList, ba_extract, ba_append, List.toList_toArray, q1_, q2_]; (first | done | rfl))
    | fail
    )
    have hb : (s == l[i]) = (l[i]? == some s) := by rw [hq, Bool.eq_iff_iff, beq_iff_eq, beq_iff_eq, Option.some.injEq]; exact eq_comm
    rw [hb]
    cases hpi : (l[i]? == some s) with
    | true =>
      (repeat' first
    | refine w_seq ?_ | refine w_rg ?_ | refine wo_nil ?_ | refine g_skU ?_ | refine g_skT ?_ | refine g_skF ?_
    | ((first | apply s_plain | apply s_void | apply s_guard | apply g_goT | apply g_goF); · simp only [go_sem, Nat.reduceEqDiff, Nat.reduceAdd, Nat.reduceLeDiff]; (first | done | rfl))
    | ((first | apply g_T | apply g_F | apply g_gT | apply g_gF); · intro q1_; (first | intro q2_ | have q2_ := q1_); simp only [go_sem, Nat.reduceEqDiff, Nat.reduceAdd, Nat.reduceLeDiff, q1_, q2_]; (first | done | rfl))
    | (apply w_condX; · simp only [go_sem, Nat.reduceEqDiff, Nat.reduceAdd, Nat.reduceLeDiff]; (first | done | rfl)); (first | refine wcd_T ?_ | refine wcd_F ?_)
    | refine w_skip ?_ | refine w_exit ?_ | refine w_ret ?_
    | fail
    )
      have hf : idxT l s = i := found_hit (p := fun i => l[i]? == some s) hi h3 hpi
      exact ⟨by first | exact .inr rfl | exact .inr trivial | exact .inl rfl, by simp only [go_sem, Nat.reduceEqDiff, Nat.reduceAdd, Nat.reduceLeDiff, retOf, resOf, hf]; first | done | rfl⟩
    | false =>
      (repeat' first
    | refine w_seq ?_ | refine w_rg ?_ | refine wo_nil ?_ | refine g_skU ?_ | refine g_skT ?_ | refine g_skF ?_
    | ((first | apply s_plain | apply s_void | apply s_guard | apply g_goT | apply g_goF); · simp only [go_sem, Nat.reduceEqDiff, Nat.reduceAdd, Nat.reduceLeDiff]; (first | done | rfl))
    | ((first | apply g_T | apply g_F | apply g_gT | apply g_gF); · intro q1_; (first | intro q2_ | have q2_ := q1_); simp only [go_sem, Nat.reduceEqDiff, Nat.reduceAdd, Nat.reduceLeDiff, q1_, q2_]; (first | done | rfl))
    | (apply w_condX; · simp only [go_sem, Nat.reduceEqDiff, Nat.reduceAdd, Nat.reduceLeDiff]; (first | done | rfl)); (first | refine wcd_T ?_ | refine wcd_F ?_)
    | refine w_skip ?_ | refine w_exit ?_ | refine w_ret ?_
    | fail
    )
      intro j hj
      by_cases hji : j = i
      · rw [hji]; exact hpi
      · exact h3 j (by omega)
  · rintro fr1 σ1 h3 hfr
    try simp only [if_true]
    (repeat' first
    | refine w_seq ?_ | refine w_rg ?_ | refine wo_nil ?_ | refine g_skU ?_ | refine g_skT ?_ | refine g_skF ?_
    | ((first | apply s_plain | apply s_void | apply s_guard | apply g_goT | apply g_goF); · simp only [go_sem, Nat.reduceEqDiff, Nat.reduceAdd, Nat.reduceLeDiff]; (first | done | rfl))
    | ((first | apply g_T | apply g_F | apply g_gT | apply g_gF); · intro q1_; (first | intro q2_ | have q2_ := q1_); simp only [go_sem, Nat.reduceEqDiff, Nat.reduceAdd, Nat.reduceLeDiff, q1_, q2_]; (first | done | rfl))
    | (apply w_condX; · simp only [go_sem, Nat.reduceEqDiff, Nat.reduceAdd, Nat.reduceLeDiff]; (first | done | rfl)); (first | refine wcd_T ?_ | refine wcd_F ?_)
    | refine w_skip ?_ | refine w_exit ?_ | refine w_ret ?_
    | fail
    )
    have hf : idxT l s = -1 := found_none (p := fun i => l[i]? == some s) h3
    exact ⟨by first | exact .inr rfl | exact .inr trivial | exact .inl rfl, by simp only [go_sem, Nat.reduceEqDiff, Nat.reduceAdd, Nat.reduceLeDiff, retOf, resOf, hf]; first | done | rfl⟩
theorem idxT_has (l : List (List UInt8)) (s : List UInt8) : decide (idxT l s ≥ 0) = l.contains s := by
  unfold idxT
  rw [found_any (f := fun x => x == s) (fun i x hx => by rw [hx]; rfl)]
  rw [Bool.eq_iff_iff]
  simp
theorem a50t (B : Has ldb env) {l : List (List UInt8)} (hn : l.length ≤ 9223372036854775807) (s : List UInt8) : AV env 50 [.sl (txts l), txt s] = some (.sc (.bool (l.contains s))) := by
  have h := a37t B hn s
  refine AV_wp (B (50, d50) (by simp [ldb])) rfl ?_
  (repeat' first
    | refine w_seq ?_ | refine w_rg ?_ | refine wo_nil ?_ | refine g_skU ?_ | refine g_skT ?_ | refine g_skF ?_
    | ((first | apply s_plain | apply s_void | apply s_guard | apply g_goT | apply g_goF); · simp only [go_sem, Nat.reduceEqDiff, Nat.reduceAdd, Nat.reduceLeDiff, h]; (first | done | rfl))
    | ((first | apply g_T | apply g_F | apply g_gT | apply g_gF); · intro q1_; (first | intro q2_ | have q2_ := q1_); simp only [go_sem, Nat.reduceEqDiff, Nat.reduceAdd, Nat.reduceLeDiff, h, q1_, q2_]; (first | done | rfl))
    | (apply w_condX; · simp only [go_sem, Nat.reduceEqDiff, Nat.reduceAdd, Nat.reduceLeDiff, h]; (first | done | rfl)); (first | refine wcd_T ?_ | refine wcd_F ?_)
    | refine w_skip ?_ | refine w_exit ?_ | refine w_ret ?_
    | fail
    )
  exact ⟨by first | exact .inr rfl | exact .inr trivial | exact .inl rfl, by simp only [go_sem, Nat.reduceEqDiff, Nat.reduceAdd, Nat.reduceLeDiff, retOf, resOf, idxT_has]; first | done | rfl⟩
def keysOk (l : List (List UInt8)) : Bool := (List.range l.length).all fun i => wordD (l.getD i []) && !(l.take i).contains (l.getD i [])
def mayD (d : Df) : Bool := keysOk d.ks && wordD d.ty && decide (d.ks.length ≤ 64) && decide (d.ks.length = d.vs.length) && d.vs.all valD
def rightD (l : List Df) : Bool := decide (l.length ≤ 64) && l.all mayD
theorem a52 (A : Has law env) (D : Has lda env) (C : Has ldc env) {s : List UInt8} (hs : SmT s) : AV env 52 [txt s] = some (.sc (.bool (!valD s))) := by
  have h := a53 A D hs
  refine AV_wp (C (52, d52) (by simp [ldc])) rfl ?_
  (repeat' first
    | refine w_seq ?_ | refine w_rg ?_ | refine wo_nil ?_ | refine g_skU ?_ | refine g_skT ?_ | refine g_skF ?_
    | ((first | apply s_plain | apply s_void | apply s_guard | apply g_goT | apply g_goF); · simp only [go_sem, Nat.reduceEqDiff, Nat.reduceAdd, Nat.reduceLeDiff, h]; (first | done | rfl))
    | ((first | apply g_T | apply g_F | apply g_gT | apply g_gF); · intro q1_; (first | intro q2_ | have q2_ := q1_); simp only [go_sem, Nat.reduceEqDiff, Nat.reduceAdd, Nat.reduceLeDiff, h, q1_, q2_]; (first | done | rfl))
    | (apply w_condX; · simp only [go_sem, Nat.reduceEqDiff, Nat.reduceAdd, Nat.reduceLeDiff, h]; (first | done | rfl)); (first | refine wcd_T ?_ | refine wcd_F ?_)
    | refine w_skip ?_ | refine w_exit ?_ | refine w_ret ?_
    | fail
    )
  exact ⟨by first | exact .inr rfl | exact .inr trivial | exact .inl rfl, by simp only [go_sem, Nat.reduceEqDiff, Nat.reduceAdd, Nat.reduceLeDiff, retOf, resOf]; first | done | rfl⟩
theorem a51 (A : Has law env) (D : Has lda env) (C : Has ldc env) {l : List (List UInt8)} (hn : l.length ≤ 9223372036854775807) (hs : ∀ k ∈ l, SmT k) : AV env 51 [.sl (txts l), .fn 52 [] []] = some (.sc (.bool (!l.all valD))) := by
  have h := conF_g (env := env) (k0 := 68) (k1 := 51) (C (51, dConF 68) (by simp [ldc])) (xs := txts l) (k := 52) (a := []) (b := []) (fun _ => rfl) (fun _ => rfl)
    (idxF_g (C (68, dIdxF 1 none) (by simp [ldc])) (q := fun i => !valD (l.getD i [])) (by rw [txts_len]; exact hn) (txts_elems l) (fun i e h σ => by
      simp only [txts, List.getElem?_map] at h
      obtain ⟨s, _, rfl⟩ := Option.map_eq_some_iff.1 h
      rfl) (fun i e h => by
      simp only [txts, List.getElem?_map] at h
      obtain ⟨s, h2, rfl⟩ := Option.map_eq_some_iff.1 h
      rw [List.getD_eq_getElem?_getD, h2]
      exact a52 A D C (hs s (List.mem_of_getElem? h2))))
  rw [h, txts_len, found_any (f := fun x => !valD x) (fun i x hx => by rw [List.getD_eq_getElem?_getD, hx]; rfl)]
  rw [any_not l valD _ fun _ => rfl]
theorem a29 (A : Has law env) (D : Has lda env) (B : Has ldb env) (C : Has ldc env) {d : Df} (h : d.Sm) : AV env 29 [df d] = some (.sc (.bool (mayD d))) := by
  have hll := txts_len d.ks
  have hlv := txts_len d.vs
  have hty := a49t A h.ty
  have hva := a51 A D C (by have := h.vs.1; omega) h.vs.2
  refine AV_wp (C (29, d29) (by simp [ldc])) rfl ?_
  unfold df
  (repeat' first
    | refine w_seq ?_ | refine w_rg ?_ | refine wo_nil ?_ | refine g_skU ?_ | refine g_skT ?_ | refine g_skF ?_
    | ((first | apply s_plain | apply s_void | apply s_guard | apply g_goT | apply g_goF); · simp only [go_sem, Nat.reduceEqDiff, Nat.reduceAdd, Nat.reduceLeDiff, hll]; (first | done | rfl))
    | ((first | apply g_T | apply g_F | apply g_gT | apply g_gF); · intro q1_; (first | intro q2_ | have q2_ := q1_); simp only [go_sem, Nat.reduceEqDiff, Nat.reduceAdd, Nat.reduceLeDiff, hll, q1_, q2_]; (first | done | rfl))
    | fail
    )
  refine w_block (w_rangeF d.ks.length (by have := h.ks.1; omega) (fun i fr σ => (∀ j, j < i → (wordD (d.ks.getD j []) && !(d.ks.take j).contains (d.ks.getD j [])) = true) ∧ σ.m 2000001 0 = some ⟨3, [df d], true, true⟩) ⟨by decide, rfl, rfl⟩ (fun _ _ _ _ h => ⟨h, h, h⟩) ⟨fun j hj => by omega, by simp only [go_sem, Nat.reduceEqDiff, Nat.reduceAdd, Nat.reduceLeDiff]; rfl⟩ (by simp only [go_sem, Nat.reduceEqDiff, Nat.reduceAdd, Nat.reduceLeDiff]; first | done | rfl) (by simp only [go_sem, Nat.reduceEqDiff, Nat.reduceAdd, Nat.reduceLeDiff, hll]; first | done | rfl) ?_ ?_)
  · rintro i fr1 σ1 hi ⟨h3, hm⟩ hti hfr
    have f0_1 := hfr 1 rfl; have f0_6 := hfr 6 rfl; have f0_7 := hfr 7 rfl; try (simp only [go_sem, Nat.reduceEqDiff, Nat.reduceAdd, Nat.reduceLeDiff] at f0_1); try (simp only [go_sem, Nat.reduceEqDiff, Nat.reduceAdd, Nat.reduceLeDiff] at f0_6); try (simp only [go_sem, Nat.reduceEqDiff, Nat.reduceAdd, Nat.reduceLeDiff] at f0_7)
    have z1 : fr1 1 = .bx 2000001 0 3 0 0 := by rw [hfr 1 rfl]; simp only [go_sem, Nat.reduceEqDiff, Nat.reduceAdd, Nat.reduceLeDiff]
    have hq := List.getElem?_eq_getElem hi
    have hx := txts_at hq
    have e1 : (0 : Int) ≤ (i : Int) ∧ (i : Int) < (d.ks.length : Int) := by omega
    have b1 : (0 : Int) ≤ (i : Int) ∧ (i : Int) ≤ (d.ks.length : Int) := by omega
    have hw := a49t A (h.ks.2 _ (List.getElem_mem hi))
    have hc := a50t B (l := d.ks.take i) (by rw [List.length_take]; have := h.ks.1; omega) d.ks[i]
    have htk : (txts d.ks).take i = txts (d.ks.take i) := by simp [txts]
    have hall := txts_all d.ks
    have hg : d.ks.getD i [] = d.ks[i] := by rw [List.getD_eq_getElem?_getD, hq]; rfl
    refine w_block ?_
    unfold df at hm
    (repeat' first
    | refine w_seq ?_ | refine w_rg ?_ | refine wo_nil ?_ | refine g_skU ?_ | refine g_skT ?_ | refine g_skF ?_
    | ((first | apply s_plain | apply s_void | apply s_guard | apply g_goT | apply g_goF); · simp only [go_sem, Nat.reduceEqDiff, Nat.reduceAdd, Nat.reduceLeDiff, f0_1, f0_6, f0_7, z1, hti, e1, hll, Int.toNat_natCast, hx, hw, hm]; (first | done | rfl))
    | ((first | apply g_T | apply g_F | apply g_gT | apply g_gF); · intro q1_; (first | intro q2_ | have q2_ := q1_); simp only [go_sem, Nat.reduceEqDiff, Nat.reduceAdd, Nat.reduceLeDiff, f0_1, f0_6, f0_7, z1, hti, e1, hll, Int.toNat_natCast, hx, hw, hm, q1_, q2_]; (first | done | rfl))
    | fail
    )
    refine g_F (v := .sl (txts (d.ks.take i))) (by
      intro hb
      simp only [go_sem, Nat.reduceEqDiff, Nat.reduceAdd, Nat.reduceLeDiff, hb, slcLP_sl, hall, hll, bound, b1, Int.toNat_natCast, htk, Bool.not_false]) ?_
    (repeat' first
    | refine w_seq ?_ | refine w_rg ?_ | refine wo_nil ?_ | refine g_skU ?_ | refine g_skT ?_ | refine g_skF ?_
    | ((first | apply s_plain | apply s_void | apply s_guard | apply g_goT | apply g_goF); · simp only [go_sem, Nat.reduceEqDiff, Nat.reduceAdd, Nat.reduceLeDiff, hc]; (first | done | rfl))
    | ((first | apply g_T | apply g_F | apply g_gT | apply g_gF); · intro q1_; (first | intro q2_ | have q2_ := q1_); simp only [go_sem, Nat.reduceEqDiff, Nat.reduceAdd, Nat.reduceLeDiff, hc, q1_, q2_]; (first | done | rfl))
    | fail
    )
    cases hpi : (wordD (d.ks.getD i []) && !(d.ks.take i).contains (d.ks.getD i [])) with
    | false =>
      have hk : keysOk d.ks = false := all_hit hi hpi
      rw [hg] at hpi
      refine w_condT (by simp only [go_sem, Nat.reduceEqDiff, Nat.reduceAdd, Nat.reduceLeDiff]; revert hpi; generalize wordD d.ks[i] = b1; generalize (d.ks.take i).contains d.ks[i] = b2; cases b1 <;> cases b2 <;> simp) ?_
      (repeat' first
    | refine w_seq ?_ | refine w_rg ?_ | refine wo_nil ?_ | refine g_skU ?_ | refine g_skT ?_ | refine g_skF ?_
    | ((first | apply s_plain | apply s_void | apply s_guard | apply g_goT | apply g_goF); · simp only [go_sem, Nat.reduceEqDiff, Nat.reduceAdd, Nat.reduceLeDiff]; (first | done | rfl))
    | ((first | apply g_T | apply g_F | apply g_gT | apply g_gF); · intro q1_; (first | intro q2_ | have q2_ := q1_); simp only [go_sem, Nat.reduceEqDiff, Nat.reduceAdd, Nat.reduceLeDiff, q1_, q2_]; (first | done | rfl))
    | (apply w_condX; · simp only [go_sem, Nat.reduceEqDiff, Nat.reduceAdd, Nat.reduceLeDiff]; (first | done | rfl)); (first | refine wcd_T ?_ | refine wcd_F ?_)
    | refine w_skip ?_ | refine w_exit ?_ | refine w_ret ?_
    | fail
    )
      exact ⟨by first | exact .inr rfl | exact .inr trivial | exact .inl rfl, by simp only [go_sem, Nat.reduceEqDiff, Nat.reduceAdd, Nat.reduceLeDiff, retOf, resOf, mayD, hk, Bool.false_and]; first | done | rfl⟩
    | true =>
      have hpi' := hpi
      rw [hg] at hpi'
      refine w_condF (by simp only [go_sem, Nat.reduceEqDiff, Nat.reduceAdd, Nat.reduceLeDiff]; revert hpi'; generalize wordD d.ks[i] = b1; generalize (d.ks.take i).contains d.ks[i] = b2; cases b1 <;> cases b2 <;> simp) ?_
      (repeat' first
    | refine w_seq ?_ | refine w_rg ?_ | refine wo_nil ?_ | refine g_skU ?_ | refine g_skT ?_ | refine g_skF ?_
    | ((first | apply s_plain | apply s_void | apply s_guard | apply g_goT | apply g_goF); · simp only [go_sem, Nat.reduceEqDiff, Nat.reduceAdd, Nat.reduceLeDiff]; (first | done | rfl))
    | ((first | apply g_T | apply g_F | apply g_gT | apply g_gF); · intro q1_; (first | intro q2_ | have q2_ := q1_); simp only [go_sem, Nat.reduceEqDiff, Nat.reduceAdd, Nat.reduceLeDiff, q1_, q2_]; (first | done | rfl))
    | (apply w_condX; · simp only [go_sem, Nat.reduceEqDiff, Nat.reduceAdd, Nat.reduceLeDiff]; (first | done | rfl)); (first | refine wcd_T ?_ | refine wcd_F ?_)
    | refine w_skip ?_ | refine w_exit ?_ | refine w_ret ?_
    | fail
    )
      refine ⟨fun j hj => ?_, by simp only [go_sem, Nat.reduceEqDiff, Nat.reduceAdd, Nat.reduceLeDiff, hm, df]⟩
      by_cases hji : j = i
      · rw [hji]; exact hpi
      · exact h3 j (by omega)
  · rintro fr1 σ1 ⟨h3, hm⟩ hfr
    have e0_1 := hfr 1 rfl; try (simp only [go_sem, Nat.reduceEqDiff, Nat.reduceAdd, Nat.reduceLeDiff] at e0_1)
    have hk : keysOk d.ks = true := all_all h3
    try simp only [if_true]
    unfold df at hm
    (repeat' first
    | refine w_seq ?_ | refine w_rg ?_ | refine wo_nil ?_ | refine g_skU ?_ | refine g_skT ?_ | refine g_skF ?_
    | ((first | apply s_plain | apply s_void | apply s_guard | apply g_goT | apply g_goF); · simp only [go_sem, Nat.reduceEqDiff, Nat.reduceAdd, Nat.reduceLeDiff, e0_1, hm, hty, hll, hlv, hva]; (first | done | rfl))
    | ((first | apply g_T | apply g_F | apply g_gT | apply g_gF); · intro q1_; (first | intro q2_ | have q2_ := q1_); simp only [go_sem, Nat.reduceEqDiff, Nat.reduceAdd, Nat.reduceLeDiff, e0_1, hm, hty, hll, hlv, hva, q1_, q2_]; (first | done | rfl))
    | (apply w_condX; · simp only [go_sem, Nat.reduceEqDiff, Nat.reduceAdd, Nat.reduceLeDiff, e0_1, hm, hty, hll, hlv, hva]; (first | done | rfl)); (first | refine wcd_T ?_ | refine wcd_F ?_)
    | refine w_skip ?_ | refine w_exit ?_ | refine w_ret ?_
    | fail
    )
    have e1 : (wordD d.ty && decide ((d.ks.length : Int) ≤ 64) && ((d.ks.length : Int) == (d.vs.length : Int)) && !!d.vs.all valD) = mayD d := by
      unfold mayD
      rw [hk, Bool.not_not, Bool.true_and]
      congr 1
      congr 1
      · congr 1
        rw [Bool.eq_iff_iff]; simp; omega
      · rw [Bool.eq_iff_iff, beq_iff_eq, decide_eq_true_eq, Int.natCast_inj]
    exact ⟨by first | exact .inr rfl | exact .inr trivial | exact .inl rfl, by simp only [go_sem, Nat.reduceEqDiff, Nat.reduceAdd, Nat.reduceLeDiff, retOf, resOf, e1]; first | done | rfl⟩
theorem a28 (A : Has law env) (D : Has lda env) (B : Has ldb env) (C : Has ldc env) {d : Df} (h : d.Sm) : AV env 28 [df d] = some (.sc (.bool (!mayD d))) := by
  have h29 := a29 A D B C h
  refine AV_wp (C (28, d28) (by simp [ldc])) rfl ?_
  unfold df at h29 ⊢
  (repeat' first
    | refine w_seq ?_ | refine w_rg ?_ | refine wo_nil ?_ | refine g_skU ?_ | refine g_skT ?_ | refine g_skF ?_
    | ((first | apply s_plain | apply s_void | apply s_guard | apply g_goT | apply g_goF); · simp only [go_sem, Nat.reduceEqDiff, Nat.reduceAdd, Nat.reduceLeDiff, h29, List.drop_zero]; (first | done | rfl))
    | ((first | apply g_T | apply g_F | apply g_gT | apply g_gF); · intro q1_; (first | intro q2_ | have q2_ := q1_); simp only [go_sem, Nat.reduceEqDiff, Nat.reduceAdd, Nat.reduceLeDiff, h29, List.drop_zero, q1_, q2_]; (first | done | rfl))
    | (apply w_condX; · simp only [go_sem, Nat.reduceEqDiff, Nat.reduceAdd, Nat.reduceLeDiff, h29, List.drop_zero]; (first | done | rfl)); (first | refine wcd_T ?_ | refine wcd_F ?_)
    | refine w_skip ?_ | refine w_exit ?_ | refine w_ret ?_
    | fail
    )
  exact ⟨by first | exact .inr rfl | exact .inr trivial | exact .inl rfl, by simp only [go_sem, Nat.reduceEqDiff, Nat.reduceAdd, Nat.reduceLeDiff, retOf, resOf]; first | done | rfl⟩
def Sms (l : List Df) : Prop := l.length ≤ 4000000000 ∧ ∀ d ∈ l, d.Sm
theorem a9 (A : Has law env) (D : Has lda env) (B : Has ldb env) (C : Has ldc env) {l : List Df} (hl : Sms l) : AV env 9 [.sl (dfs l)] = some (.sc (.bool (rightD l))) := by
  have hll := dfs_len l
  have h := conF_g (env := env) (k0 := 48) (k1 := 27) (C (27, dConF 48) (by simp [ldc])) (xs := dfs l) (k := 28) (a := []) (b := []) (fun _ => rfl) (fun _ => rfl)
    (idxF_g (C (48, dIdxF 3 (some 3)) (by simp [ldc])) (q := fun i => !mayD (l.getD i ⟨[], [], []⟩)) (by rw [hll]; have := hl.1; omega) (dfs_elems l) (fun i e h σ => by
      simp only [dfs, List.getElem?_map] at h
      obtain ⟨s, _, rfl⟩ := Option.map_eq_some_iff.1 h
      rfl) (fun i e h => by
      simp only [dfs, List.getElem?_map] at h
      obtain ⟨s, h2, rfl⟩ := Option.map_eq_some_iff.1 h
      rw [List.getD_eq_getElem?_getD, h2]
      exact a28 A D B C (hl.2 s (List.mem_of_getElem? h2))))
  rw [hll, found_any (f := fun x => !mayD x) (fun i x hx => by rw [List.getD_eq_getElem?_getD, hx]; rfl), any_not l mayD _ fun _ => rfl] at h
  refine AV_wp (C (9, d9) (by simp [ldc])) rfl ?_
  (repeat' first
    | refine w_seq ?_ | refine w_rg ?_ | refine wo_nil ?_ | refine g_skU ?_ | refine g_skT ?_ | refine g_skF ?_
    | ((first | apply s_plain | apply s_void | apply s_guard | apply g_goT | apply g_goF); · simp only [go_sem, Nat.reduceEqDiff, Nat.reduceAdd, Nat.reduceLeDiff, hll, h]; (first | done | rfl))
    | ((first | apply g_T | apply g_F | apply g_gT | apply g_gF); · intro q1_; (first | intro q2_ | have q2_ := q1_); simp only [go_sem, Nat.reduceEqDiff, Nat.reduceAdd, Nat.reduceLeDiff, hll, h, q1_, q2_]; (first | done | rfl))
    | (apply w_condX; · simp only [go_sem, Nat.reduceEqDiff, Nat.reduceAdd, Nat.reduceLeDiff, hll, h]; (first | done | rfl)); (first | refine wcd_T ?_ | refine wcd_F ?_)
    | refine w_skip ?_ | refine w_exit ?_ | refine w_ret ?_
    | fail
    )
  have e : (decide ((l.length : Int) ≤ 64) && !!l.all mayD) = rightD l := by
    unfold rightD
    rw [Bool.not_not]
    congr 1
    rw [Bool.eq_iff_iff]; simp; omega
  exact ⟨by first | exact .inr rfl | exact .inr trivial | exact .inl rfl, by simp only [go_sem, Nat.reduceEqDiff, Nat.reduceAdd, Nat.reduceLeDiff, retOf, resOf, e]; first | done | rfl⟩
instance : Inhabited Df := ⟨⟨[], [], []⟩⟩
def getD (d : Df) (k : List UInt8) : List UInt8 × Int := if idxT d.ks k < 0 ∨ idxT d.ks k ≥ d.vs.length then ([], 9) else (d.vs.getD (idxT d.ks k).toNat [], 0)
end

section
variable {env : Nat → Option Def} {fr : Fr} {σ σ' : St} {K : Fr → St → Prop} {Q : X → Fr → St → Prop}
def Gat (σ : St) (os : List Nat) (es : Nat) (w : Bool) (p : PV) (xs : List PV) : Prop := (p = .em ∧ xs = []) ∨ ∃ o g wr, o ∈ os ∧ p = .ob o g es 0 xs.length ∧ σ.m o g = some ⟨es, xs, true, wr⟩ ∧ g < σ.c o ∧ xs ≠ [] ∧ (w = true → wr = true)
theorem Gat.em {os : List Nat} {es : Nat} {w : Bool} : Gat σ os es w .em [] := .inl ⟨rfl, rfl⟩
theorem Gat.new {os : List Nat} {es : Nat} {w : Bool} {p : PV} {xs : List PV} (h : Gat σ os es w p xs) {d : Nat} (y : Obj) : Gat (σ.new d y) os es w p xs := by
  rcases h with h | ⟨o, g, wr, h0, h1, h2, h3, h4⟩
  · exact .inl h
  · refine .inr ⟨o, g, wr, h0, h1, ?_, ?_, h4⟩
    · simp only [new_m]; rw [if_neg (fun h => by obtain ⟨rfl, rfl⟩ := h; omega)]; exact h2
    · simp only [new_c]; split
      · rename_i h; subst h; omega
      · exact h3
theorem Gat.put {os : List Nat} {es : Nat} {w : Bool} {p : PV} {xs : List PV} (h : Gat σ os es w p xs) {d k : Nat} (hd : d ∉ os) (y : Option Obj) : Gat (σ.put d k y) os es w p xs := by
  rcases h with h | ⟨o, g, wr, h0, h1, h2, h3, h4⟩
  · exact .inl h
  · refine .inr ⟨o, g, wr, h0, h1, ?_, ?_, h4⟩
    · simp only [put_m]; rw [if_neg (fun (h : o = d ∧ g = k) => hd (h.1 ▸ h0))]; exact h2
    · simp only [put_c]; exact h3
theorem Gat.fz {os : List Nat} {es : Nat} {w : Bool} {p : PV} {xs : List PV} (h : Gat σ os es w p xs) (hx : xs.mapM (fz σ 11) = some xs) : fz σ 12 p = some (.sl xs) := by
  rcases h with ⟨rfl, rfl⟩ | ⟨o, g, wr, _, rfl, h2, _⟩
  · rfl
  · rw [fz_ob, h2]
    simp [hx]
theorem gat_app {E : Ev} {d es by_ : Nat} {os : List Nat} {w kw : Bool} {s' x : PA} {xs : List PV} {e : PV} (hg : Gat σ os es w (pa fr s') xs) (hd : d ∈ os) (hsrc : srcOf σ es (pa fr x) = some [e]) (hok : okc e = true) (hl : (cellsOf e).length = es) (hb : (xs.length + 1) * by_ ≤ 70368744177664) :
    ∃ p σ', evO E d fr σ (.app es by_ kw s' x) = some (p, σ') ∧ Gat σ' os es (w && kw) p (xs ++ [e]) := by
  have hall : ([e].all fun y => okc y && (cellsOf y).length == es) = true := by simp [hok, hl]
  rcases hg with ⟨h1, rfl⟩ | ⟨o, g, wr, h0, h1, h2, h3, h4, h5⟩
  · refine ⟨.ob d (σ.c d) es 0 1, σ.new d ⟨es, [e], true, true⟩, ?_, .inr ⟨d, σ.c d, true, hd, rfl, by simp [new_m], by simp [new_c], by simp, fun _ => rfl⟩⟩
    simp only [evO, hsrc, Option.bind_some, hall, if_true, h1]
    rw [if_pos (by simpa using hb)]
    rfl
  · refine ⟨.ob d (σ.c d) es 0 (xs.length + 1), (σ.put o g (if kw then none else some ⟨es, xs, false, false⟩)).new d ⟨es, xs ++ [e], true, wr && kw⟩, ?_, .inr ⟨d, σ.c d, wr && kw, hd, by simp, by simp [new_m, put_c], by simp [new_c, put_c], by simp, fun h => ?_⟩⟩
    · simp only [evO, hsrc, Option.bind_some, hall, if_true, h1, h2]
      simp
      simpa using hb
    · simp only [Bool.and_eq_true] at h ⊢
      exact ⟨h5 h.1, h.2⟩
theorem s_gat {d t es by_ : Nat} {os : List Nat} {w kw : Bool} {x : PA} {xs : List PV} {e : PV} {ops : List POp} (hg : Gat σ os es w (fr t) xs) (hd : d ∈ os) (hsrc : srcOf σ es (pa fr x) = some [e]) (hok : okc e = true) (hl : (cellsOf e).length = es) (hb : (xs.length + 1) * by_ ≤ 70368744177664)
    (h2 : ∀ p σ', Gat σ' os es (w && kw) p (xs ++ [e]) → Wos env ops K (fr.set d p) σ') : Wos env (⟨some d, none, .app es by_ kw (.t t) x⟩ :: ops) K fr σ := by
  obtain ⟨p, σ', h3, h4⟩ := gat_app (E := EV env) (fr := fr) (s' := .t t) (x := x) (kw := kw) hg hd hsrc hok hl hb
  exact s_plain h3 (h2 p σ' h4)
theorem Gat.mono {os os' : List Nat} {es : Nat} {w : Bool} {p : PV} {xs : List PV} (h : Gat σ os es w p xs) (ho : ∀ o ∈ os, o ∈ os') : Gat σ os' es false p xs := by
  rcases h with h | ⟨o, g, wr, h0, h1, h2, h3, h4, _⟩
  · exact .inl h
  · exact .inr ⟨o, g, wr, ho o h0, h1, h2, h3, h4, fun h => by cases h⟩
structure Keeps (σ σ' : St) (os : List Nat) : Prop where
  c : ∀ o, σ.c o ≤ σ'.c o
  m : ∀ o g, o ∉ os → g < σ.c o → σ'.m o g = σ.m o g
theorem Gat.keep {os os2 : List Nat} {es : Nat} {w : Bool} {p : PV} {xs : List PV} (h : Gat σ os es w p xs) (hk : Keeps σ σ' os2) (hd : ∀ o ∈ os, o ∉ os2) : Gat σ' os es w p xs := by
  rcases h with h | ⟨o, g, wr, h0, h1, h2, h3, h4⟩
  · exact .inl h
  · exact .inr ⟨o, g, wr, h0, h1, by rw [hk.m o g (hd o h0) h3]; exact h2, Nat.lt_of_lt_of_le h3 (hk.c o), h4⟩
theorem gat_len {os : List Nat} {es : Nat} {w : Bool} {p : PV} {xs : List PV} {E : Ev} {d t : Nat} (hg : Gat σ os es w p xs) (ht : fr t = p) : evO E d fr σ (.lenL (.t t)) = some (.sc (.int .i64 xs.length), σ) := by
  rcases hg with ⟨rfl, rfl⟩ | ⟨o, g, wr, h0, rfl, h2, h3, h4, h5⟩
  · simp [evO, pa, ht]
  · simp [evO, pa, ht]
theorem bound_nat {n i : Nat} {k : IntKind} (h : i ≤ n) : bound n (.sc (.int k (i : Int))) = some i := by
  simp only [bound]
  rw [if_pos (by omega)]
  rfl
theorem gat_elems {os : List Nat} {es : Nat} {w : Bool} {p : PV} {xs : List PV} (hg : Gat σ os es w p xs) : elemsOf σ p = some xs := by
  rcases hg with ⟨rfl, rfl⟩ | ⟨o, g, wr, h0, rfl, h2, h3, h4, h5⟩
  · rfl
  · simp [elemsOf, h2]
theorem Gat.one {d es : Nat} {w : Bool} {p : PV} {xs : List PV} {os : List Nat} (h : Gat σ [d] es w p xs) (hd : d ∈ os) : Gat σ os es false p xs := h.mono (by intro o ho; simp at ho; subst ho; exact hd)
theorem gat_fzd {os : List Nat} {es d : Nat} {w : Bool} {p : PV} {xs : List PV} (h : Gat σ os es w p xs) (hx : xs.mapM (fz σ d) = some xs) : fz σ (d + 1) p = some (.sl xs) := by
  rcases h with ⟨rfl, rfl⟩ | ⟨o, g, wr, _, rfl, h2, _⟩
  · rfl
  · rw [fz_ob, h2]
    simp [hx]
theorem Gat.lenP {os : List Nat} {es : Nat} {w : Bool} {p : PV} {xs : List PV} (h : Gat σ os es w p xs) : lenP p = some xs.length := by
  rcases h with ⟨rfl, rfl⟩ | ⟨o, g, wr, _, rfl, _⟩ <;> rfl
theorem mn2 (a b : Int) : mnmx false [.sc (.int .i64 a), .sc (.int .i64 b)] = some (.sc (.int .i64 (min a b))) := by
  simp only [mnmx, List.foldlM_cons, List.foldlM_nil, mn1, if_true, Bool.false_eq_true, if_false]
  have : (if b < a then b else a) = min a b := by
    rw [Int.min_def]; split <;> split <;> omega
  rw [this]; rfl
end

end
section
section
variable {env : Nat → Option Def} {fr : Fr} {σ σ' σ'' : St} {K : Fr → St → Prop} {Q : X → Fr → St → Prop} {p : PV} {P : Nat → Bool}
def SubP (P : Nat → Bool) (σ σ' : St) : Prop := ∀ o g x, P o = true → σ.m o g = some x → ∃ x', σ'.m o g = some x' ∧ x'.es = x.es ∧ x'.xs = x.xs
theorem SubP.refl (σ : St) : SubP P σ σ := fun _ _ x _ h => ⟨x, h, rfl, rfl⟩
theorem SubP.trans (h : SubP P σ σ') (h' : SubP P σ' σ'') : SubP P σ σ'' := fun o g x ho hx =>
  let ⟨y, h1, h2, h3⟩ := h o g x ho hx
  let ⟨z, h4, h5, h6⟩ := h' o g y ho h1
  ⟨z, h4, h5.trans h2, h6.trans h3⟩
theorem SubP.put (h : SubP P σ σ') {o g : Nat} (ho : P o = false) (y : Option Obj) : SubP P σ (σ'.put o g y) := fun o' g' x ho' hx => by
  obtain ⟨z, h1, h2⟩ := h o' g' x ho' hx
  refine ⟨z, ?_, h2⟩
  simp only [put_m]
  rw [if_neg (fun h => by rw [h.1, ho] at ho'; cases ho')]
  exact h1
theorem SubP.new (h : SubP P σ σ') (hF : Fresh σ') (s : Nat) (y : Obj) : SubP P σ (σ'.new s y) := fun o' g' x ho' hx => by
  obtain ⟨z, h1, h2⟩ := h o' g' x ho' hx
  refine ⟨z, ?_, h2⟩
  simp only [new_m]
  rw [if_neg]
  · exact h1
  · rintro ⟨rfl, rfl⟩
    rw [hF.none] at h1; cases h1
theorem SubP.same (h : SubP P σ σ') {o g : Nat} {x y : Obj} (hx : σ'.m o g = some x) (h1 : y.es = x.es) (h2 : y.xs = x.xs) : SubP P σ (σ'.put o g (some y)) := fun o' g' z ho' hz => by
  obtain ⟨u, q1, q2, q3⟩ := h o' g' z ho' hz
  simp only [put_m]
  by_cases hq : o' = o ∧ g' = g
  · obtain ⟨rfl, rfl⟩ := hq
    rw [hx] at q1
    simp only [Option.some.injEq] at q1
    subst q1
    exact ⟨y, by simp, h1.trans q2, h2.trans q3⟩
  · exact ⟨u, by rw [if_neg hq]; exact q1, q2, q3⟩
theorem SubP.of (h : ∀ o g, P o = true → σ'.m o g = σ.m o g) : SubP P σ σ' := fun o g x ho hx => ⟨x, by rw [h o g ho]; exact hx, rfl, rfl⟩
theorem gat_app2 {E : Ev} {d es by_ : Nat} {s' x : PA} {xs : List PV} {e : PV} (hg : Gat σ [d] es false (pa fr s') xs) (hF : Fresh σ) (hsrc : srcOf σ es (pa fr x) = some [e]) (hok : okc e = true) (hl : (cellsOf e).length = es) (hb : (xs.length + 1) * by_ ≤ 70368744177664) :
    ∃ p σ', evO E d fr σ (.app es by_ false s' x) = some (p, σ') ∧ Gat σ' [d] es false p (xs ++ [e]) ∧ Fresh σ' ∧ (∀ P, SubP P σ σ') ∧ (∀ o g, o ≠ d → σ'.m o g = σ.m o g) ∧ (∀ o, o ≠ d → σ'.c o = σ.c o) ∧ σ.c d ≤ σ'.c d := by
  have hall : ([e].all fun y => okc y && (cellsOf y).length == es) = true := by simp [hok, hl]
  rcases hg with ⟨h1, rfl⟩ | ⟨o, g, wr, h0, h1, h2, h3, h4, h5⟩
  · refine ⟨.ob d (σ.c d) es 0 1, σ.new d ⟨es, [e], true, true⟩, ?_, .inr ⟨d, σ.c d, true, by simp, rfl, by simp [new_m], by simp [new_c], by simp, fun _ => rfl⟩, hF.new _ _, fun P => (SubP.refl σ).new hF _ _, fun o g ho => ?_, fun o ho => ?_, new_c_le _ _ _ _⟩
    · simp only [evO, hsrc, Option.bind_some, hall, if_true, h1]
      rw [if_pos (by simpa using hb)]
      rfl
    · simp only [new_m]; rw [if_neg (fun h => ho h.1)]
    · simp only [new_c]; rw [if_neg (fun h => ho h)]
  · simp only [List.mem_singleton] at h0
    subst h0
    refine ⟨.ob o (σ.c o) es 0 (xs.length + 1), (σ.put o g (some ⟨es, xs, false, false⟩)).new o ⟨es, xs ++ [e], true, false⟩, ?_, .inr ⟨o, σ.c o, false, by simp, by simp, by simp [new_m, put_c], by simp [new_c, put_c], by simp, fun h => by cases h⟩,
      (hF.put h2 _).new _ _, fun P => ((SubP.refl σ).same (y := ⟨es, xs, false, false⟩) h2 rfl rfl).new (hF.put h2 _) _ _, fun o' g' ho => ?_, fun o' ho => ?_, new_c_le (σ.put o g (some ⟨es, xs, false, false⟩)) o ⟨es, xs ++ [e], true, false⟩ o⟩
    · simp only [evO, hsrc, Option.bind_some, hall, if_true, h1, h2]
      simp
      simpa using hb
    · simp only [new_m, put_m]; rw [if_neg (fun h => ho h.1), if_neg (fun h => ho h.1)]
    · simp only [new_c, put_c]; rw [if_neg (fun h => ho h)]
theorem s_gat2 {d t es by_ : Nat} {x : PA} {xs : List PV} {e : PV} {ops : List POp} (hg : Gat σ [d] es false (fr t) xs) (hF : Fresh σ) (hsrc : srcOf σ es (pa fr x) = some [e]) (hok : okc e = true) (hl : (cellsOf e).length = es) (hb : (xs.length + 1) * by_ ≤ 70368744177664)
    (h2 : ∀ p σ', Gat σ' [d] es false p (xs ++ [e]) → Fresh σ' → (∀ P, SubP P σ σ') → (∀ o g, o ≠ d → σ'.m o g = σ.m o g) → (∀ o, o ≠ d → σ'.c o = σ.c o) → σ.c d ≤ σ'.c d → Wos env ops K (fr.set d p) σ') : Wos env (⟨some d, none, .app es by_ false (.t t) x⟩ :: ops) K fr σ := by
  obtain ⟨p, σ', h3, h4, h5, h6, h7, h8, h9⟩ := gat_app2 (E := EV env) (fr := fr) (s' := .t t) (x := x) hg hF hsrc hok hl hb
  exact s_plain h3 (h2 p σ' h4 h5 h6 h7 h8 h9)
structure Kp (P : Nat → Prop) (σ σ' : St) : Prop where
  f : Fresh σ'
  m : ∀ o g, P o → g < σ.c o → σ'.m o g = σ.m o g
  c : ∀ o, σ.c o ≤ σ'.c o
theorem Kp.refl {P : Nat → Prop} (hF : Fresh σ) : Kp P σ σ := ⟨hF, fun _ _ _ _ => rfl, fun _ => Nat.le_refl _⟩
theorem Kp.trans {P : Nat → Prop} (h : Kp P σ σ') (h' : Kp P σ' σ'') : Kp P σ σ'' :=
  ⟨h'.f, fun o g hp hg => by rw [h'.m o g hp (Nat.lt_of_lt_of_le hg (h.c o)), h.m o g hp hg], fun o => Nat.le_trans (h.c o) (h'.c o)⟩
theorem Kp.new {P : Nat → Prop} (h : Kp P σ σ') (o : Nat) (y : Obj) : Kp P σ (σ'.new o y) :=
  ⟨h.f.new _ _, fun o' g' hp hg => by
    simp only [new_m]; rw [if_neg (fun e => by obtain ⟨rfl, rfl⟩ := e; have := h.c o'; omega)]; exact h.m o' g' hp hg, fun o' => Nat.le_trans (h.c o') (new_c_le _ _ _ _)⟩
theorem Kp.put {P : Nat → Prop} (h : Kp P σ σ') {o g : Nat} {x : Obj} (hx : σ'.m o g = some x) (ho : ¬ P o ∨ σ.c o ≤ g) (y : Option Obj) : Kp P σ (σ'.put o g y) :=
  ⟨h.f.put hx y, fun o' g' hp hg => by
    simp only [put_m]; rw [if_neg (fun e => by obtain ⟨rfl, rfl⟩ := e; rcases ho with ho | ho; exact ho hp; omega)]; exact h.m o' g' hp hg, h.c⟩
theorem Kp.app {P : Nat → Prop} (h : Kp P σ σ') {d : Nat} (hF : Fresh σ'') (hm : ∀ o g, o ≠ d → σ''.m o g = σ'.m o g) (hc : ∀ o, o ≠ d → σ''.c o = σ'.c o) (hd : ¬ P d) (hcd : σ'.c d ≤ σ''.c d) : Kp P σ σ'' :=
  ⟨hF, fun o g hp hg => by rw [hm o g (fun e => hd (e ▸ hp))]; exact h.m o g hp hg, fun o => by
    by_cases e : o = d
    · rw [e]; exact Nat.le_trans (h.c d) hcd
    · rw [hc o e]; exact h.c o⟩
theorem Kp.mono {P P' : Nat → Prop} (h : Kp P σ σ') (hp : ∀ o, P' o → P o) : Kp P' σ σ' := ⟨h.f, fun o g h1 h2 => h.m o g (hp o h1) h2, h.c⟩
theorem Kp.gat {P : Nat → Prop} (h : Kp P σ σ') {o es : Nat} {w : Bool} {xs : List PV} (hp : P o) (hg : Gat σ [o] es w p xs) : Gat σ' [o] es w p xs := by
  rcases hg with h1 | ⟨o', g, wr, h0, h1, h2, h3, h4⟩
  · exact .inl h1
  · simp only [List.mem_singleton] at h0
    subst h0
    exact .inr ⟨o', g, wr, by simp, h1, by rw [h.m o' g hp h3]; exact h2, Nat.lt_of_lt_of_le h3 (h.c o'), h4⟩
end

end
section
attribute [local go_sem ↓] e_mv e_pick e_bin e_eqs e_beq e_un e_cvi e_str e_s2b e_b2s e_box e_build e_bsl e_ld e_st e_nck e_mkf e_slcS e_slcL e_fa e_fld e_ia e_iaa e_ix e_ixa e_ext e_lenS e_lenL e_mnmx e_app e_appb e_bbx e_msl e_clr e_call e_callv e_icall e_slcA e_mkm e_mput e_mget e_mlen e_mdel pa_t pa_c pa_f slcSP_str hiOf_some hiOf_none loOf_some loOf_none set_eq set_ne
attribute [local go_sem] pv pv1 simple frOf_0 frOf_1 frOf_2 frOf_3 frOf_4 frOf_5 ne_eq not_false_eq_true if_true Bool.false_eq_true if_false pbin punary Option.map_some Option.bind_some pick_and pick_or opt_true Bool.true_and Bool.and_self Bool.and_true Bool.true_or Bool.false_or Bool.not_true Bool.not_false callE pcall_eq List.map_cons List.map_nil List.append_nil List.nil_append List.cons_append mapM_cons' mapM_nil' dep_eq fz_sc fz_sl fz_em fz_fn fz_fp fz_agg fz_tu fz_bx fz_ob Nat.lt_irrefl Nat.zero_lt_one Nat.lt_add_one flat clL cl Bool.or_true okc_sc okc_em okc_sl okc_ob okc_bx okc_fp okc_fn okc_agg okc_ifc cells_agg cells_sc cells_sl cells_em cells_ob cells_fn cells_bx cells_fp List.length_cons List.length_nil Nat.zero_add and_self true_and and_true new_m new_c put_m put_c nil_m nil_c nil_mm new_mm put_mm newM_m newM_c newM_mm putM_m putM_c putM_mm mkeyV_1 mkeyV_2 mapAt_eq deref List.getElem?_cons_zero List.getElem?_cons_succ List.drop_zero List.drop_succ_cons List.take_succ_cons List.take_zero Nat.le_refl false_and and_false decide_true decide_false lenP_em lenP_nil lenP_sl lenP_ob Int.ofNat_zero splice fillP fillE List.modify_zero_cons List.replicate_succ List.replicate_zero List.set_cons_zero List.drop_zero ba_data ba_size ba_toList ba_extract ba_append List.toList_toArray
def d282 : Def := (.code 1 [] (.seq (.rg false [⟨.some 2, .none, .ld .none (.t 0)⟩, ⟨.some 3, .none, .bin .and (.t 2) (.c (.int .u32 1))⟩, ⟨.some 1, .none, .mv (.t 3)⟩]) (.seq (.rg false [⟨.some 4, .none, .ld .none (.t 0)⟩, ⟨.some 5, .none, .bin .shr (.t 4) (.c (.int .u64 1))⟩, ⟨.none, .none, .st 1 (.t 0) (.t 5)⟩]) (.seq (.rg false [⟨.some 6, .none, .mv (.t 1)⟩, ⟨.some 7, .none, .bin .eql (.t 6) (.c (.int .u32 1))⟩]) (.cond (.t 7) (.rg false [⟨.some 8, .none, .ld .none (.t 0)⟩, ⟨.some 9, .none, .bin .xor (.t 8) (.c (.int .u32 3988292384))⟩, ⟨.none, .none, .st 1 (.t 0) (.t 9)⟩]) .skip)))))
def d279 : Def := (.code 1 [.tmp 2] (.seq (.rg false [⟨.some 2, .none, .mv (.c (.int .u32 0))⟩]) (.seq (.rg false [⟨.some 3, .none, .box (.c (.int .u32 0))⟩, ⟨.none, .none, .st 1 (.t 3) (.c (.int .u32 4294967295))⟩]) (.seq (.rg false [⟨.some 6, .none, .mkf 282 [] [.t 3]⟩, ⟨.some 4, .none, .mv (.t 6)⟩]) (.seq (.seq (.rg false [⟨.some 7, .none, .mv (.t 0)⟩, ⟨.some 8, .none, .lenS (.t 7)⟩, ⟨.some 9, .none, .mv (.c (.int .i64 0))⟩]) (.block 0 (.loop (.seq (.rg false [⟨.some 10, .none, .bin .lss (.t 9) (.t 8)⟩]) (.seq (.cond (.t 10) .skip (.exit 0)) (.seq (.block 1 (.seq (.rg false [⟨.some 11, .none, .mv (.t 9)⟩, ⟨.some 5, .none, .mv (.t 11)⟩]) (.seq (.rg true [⟨.some 12, .none, .ld .none (.t 3)⟩, ⟨.some 13, .none, .mv (.t 0)⟩, ⟨.some 14, .none, .mv (.t 5)⟩, ⟨.some 15, .none, .ix (.t 13) (.t 14)⟩, ⟨.some 16, .none, .cvi .u32 (.t 15)⟩, ⟨.some 17, .none, .bin .xor (.t 12) (.t 16)⟩, ⟨.none, .none, .st 1 (.t 3) (.t 17)⟩]) (.seq (.rg false [⟨.some 18, .none, .mv (.c (.int .i64 0))⟩]) (.block 2 (.loop (.seq (.rg false [⟨.some 19, .none, .bin .lss (.t 18) (.c (.int .i64 8))⟩]) (.seq (.cond (.t 19) .skip (.exit 2)) (.seq (.block 3 (.rg false [⟨.some 20, .none, .mv (.t 4)⟩, ⟨.some 21, .none, .callv (.t 20) .opn []⟩])) (.rg false [⟨.some 22, .none, .bin .add (.t 18) (.c (.int .i64 1))⟩, ⟨.some 18, .none, .mv (.t 22)⟩])))))))))) (.rg false [⟨.some 23, .none, .bin .add (.t 9) (.c (.int .i64 1))⟩, ⟨.some 9, .none, .mv (.t 23)⟩]))))))) (.seq (.rg false [⟨.some 24, .none, .ld .none (.t 3)⟩, ⟨.some 25, .none, .bin .xor (.t 24) (.c (.int .u32 4294967295))⟩, ⟨.some 2, .none, .mv (.t 25)⟩]) .ret))))))
def d270 : Def := (.code 1 [.tmp 2] (.seq (.rg false [⟨.some 2, .none, .mv (.c (.string ⟨#[]⟩))⟩]) (.seq (.rg false [⟨.some 4, .none, .mv (.t 0)⟩, ⟨.some 5, .none, .call 279 .pure [.t 4]⟩, ⟨.some 3, .none, .mv (.t 5)⟩]) (.seq (.rg false [⟨.some 6, .none, .mv (.t 3)⟩, ⟨.some 7, .none, .cvi .u8 (.t 6)⟩, ⟨.some 8, .none, .mv (.t 3)⟩, ⟨.some 9, .none, .bin .shr (.t 8) (.c (.int .u64 8))⟩, ⟨.some 10, .none, .cvi .u8 (.t 9)⟩, ⟨.some 11, .none, .mv (.t 3)⟩, ⟨.some 12, .none, .bin .shr (.t 11) (.c (.int .u64 16))⟩, ⟨.some 13, .none, .cvi .u8 (.t 12)⟩, ⟨.some 14, .none, .mv (.t 3)⟩, ⟨.some 15, .none, .bin .shr (.t 14) (.c (.int .u64 24))⟩, ⟨.some 16, .none, .cvi .u8 (.t 15)⟩, ⟨.some 17, .none, .bsl 1 (.int .u8 0) 4 [(0, .t 7), (1, .t 10), (2, .t 13), (3, .t 16)]⟩, ⟨.some 18, .none, .b2s (.t 17)⟩, ⟨.some 2, .none, .mv (.t 18)⟩]) .ret))))
def lib : List (Nat × Def) := [(282, d282), (279, d279), (270, d270)]
theorem bv32 {a : Nat} (h : a < 4294967296) : (BitVec.ofInt IntKind.u32.bits (a : Int)).toNat = a := by
  show (BitVec.ofInt 32 (a : Int)).toNat = a
  rw [BitVec.toNat_ofInt]
  omega
theorem xor32 {a b : Nat} (ha : a < 4294967296) (hb : b < 4294967296) : IntKind.u32.wrap ((BitVec.ofInt IntKind.u32.bits (a : Int) ^^^ BitVec.ofInt IntKind.u32.bits (b : Int)).toNat : Int) = ((a ^^^ b : Nat) : Int) := by
  have h : a ^^^ b < 4294967296 := Nat.xor_lt_two_pow (n := 32) ha hb
  rw [BitVec.toNat_xor, bv32 ha, bv32 hb, IntKind.wrap_u32]
  omega
theorem and32 {a : Nat} (ha : a < 4294967296) : IntKind.u32.wrap ((BitVec.ofInt IntKind.u32.bits (a : Int) &&& BitVec.ofInt IntKind.u32.bits (1 : Int)).toNat : Int) = ((a % 2 : Nat) : Int) := by
  have e1 := bv32 (a := 1) (by decide)
  rw [BitVec.toNat_and, bv32 ha, show (BitVec.ofInt IntKind.u32.bits (1 : Int)).toNat = 1 from e1, Nat.and_one_is_mod, IntKind.wrap_u32]
  omega
theorem shr32 {a : Nat} (k : Nat) (hk : k < 32) : (a : Int).fdiv (2 ^ (min (k : Int).toNat IntKind.u32.bits)) = ((a / 2 ^ k : Nat) : Int) := by
  have e : min (k : Int).toNat IntKind.u32.bits = k := by
    show min (k : Int).toNat 32 = k
    omega
  rw [e, Int.fdiv_eq_ediv_of_nonneg _ (by exact Int.pow_nonneg (by decide))]
  simp
theorem tmod_nat (a b : Nat) {z : Int} (h : z = (b : Int)) : (a : Int).tmod z = ((a % b : Nat) : Int) := by rw [h]; exact (Int.ofNat_tmod a b).symm
theorem tdiv_nat (a b : Nat) {z : Int} (h : z = (b : Int)) : (a : Int).tdiv z = ((a / b : Nat) : Int) := by rw [h]; exact (Int.ofNat_tdiv a b).symm
theorem pb_xor {a b : Nat} {z : Int} (hz : z = (b : Int)) (ha : a < 4294967296) (hb : b < 4294967296) : pbin .xor (.int .u32 (a : Int)) (.int .u32 z) = some (.int .u32 ((a ^^^ b : Nat) : Int)) := by
  subst hz
  exact congrArg (fun n => some (Value.int .u32 n)) (xor32 ha hb)
theorem pb_and {a : Nat} (ha : a < 4294967296) : pbin .and (.int .u32 (a : Int)) (.int .u32 1) = some (.int .u32 ((a % 2 : Nat) : Int)) :=
  congrArg (fun n => some (Value.int .u32 n)) (and32 ha)
theorem pb_shr {a : Nat} (k : Nat) {z : Int} (hz : z = (k : Int)) (hk : k < 32) (ha : a < 4294967296) : pbin .shr (.int .u32 (a : Int)) (.int .u64 z) = some (.int .u32 ((a / 2 ^ k : Nat) : Int)) := by
  subst hz
  have h1 : ¬ ((k : Int) < 0) := by omega
  have h2 : a / 2 ^ k ≤ a := Nat.div_le_self _ _
  simp only [pbin, if_neg h1]
  rw [shr32 k hk]
theorem put_putI (σ : St) (o g : Nat) (x y : Option Obj) : (σ.put o g x).put o g y = σ.put o g y := by
  simp only [St.put]
  congr 1
  funext o' g'
  split <;> rfl
section
variable {env : Nat → Option Def} {fr : Fr} {σ σ' σ'' : St} {K : Fr → St → Prop} {Q : X → Fr → St → Prop} {p : PV} {bs : List UInt8}
theorem a282 (B : Has lib env) {o g c : Nat} (hc : c < 4294967296) (hm : σ.m o g = some ⟨1, [.sc (.int .u32 (c : Int))], true, true⟩) :
    EV env 282 [.bx o g 1 0 0] σ = some (.tu [], σ.put o g (some ⟨1, [.sc (.int .u32 ((stepC c : Nat) : Int))], true, true⟩)) := by
  have e1 := pb_and hc
  have e2 := pb_shr (a := c) 1 (z := 1) rfl (by decide) hc
  have e3 := pb_xor (a := c / 2 ^ 1) (b := 3988292384) (z := 3988292384) rfl (by omega) (by decide)
  refine EV_wp (B (282, d282) (by simp [lib])) rfl ?_
  by_cases hq : c % 2 = 1
  · have hd2 : ((((c % 2 : Nat) : Int)) == 1) = true := by simp [hq]
    (repeat' first
    | refine w_seq ?_ | refine w_rg ?_ | refine wo_nil ?_ | refine g_skU ?_ | refine g_skT ?_ | refine g_skF ?_
    | ((first | apply s_plain | apply s_void | apply s_guard | apply g_goT | apply g_goF); · simp only [go_sem, Nat.reduceEqDiff, Nat.reduceAdd, Nat.reduceLeDiff, hm, ↓e1, ↓e2, ↓e3, hd2]; (first | done | rfl))
    | ((first | apply g_T | apply g_F | apply g_gT | apply g_gF); · intro q1_; (first | intro q2_ | have q2_ := q1_); simp only [go_sem, Nat.reduceEqDiff, Nat.reduceAdd, Nat.reduceLeDiff, hm, ↓e1, ↓e2, ↓e3, hd2, q1_, q2_]; (first | done | rfl))
    | (apply w_condX; · simp only [go_sem, Nat.reduceEqDiff, Nat.reduceAdd, Nat.reduceLeDiff, hm, ↓e1, ↓e2, ↓e3, hd2]; (first | done | rfl)); (first | refine wcd_T ?_ | refine wcd_F ?_)
    | refine w_skip ?_ | refine w_exit ?_ | refine w_ret ?_
    | fail
    )
    exact ⟨.inl rfl, rfl, by simp only [go_sem, Nat.reduceEqDiff, Nat.reduceAdd, Nat.reduceLeDiff, put_putI, stepC, hq, Nat.pow_one]⟩
  · have hd2 : ((((c % 2 : Nat) : Int)) == 1) = false := by simp; omega
    (repeat' first
    | refine w_seq ?_ | refine w_rg ?_ | refine wo_nil ?_ | refine g_skU ?_ | refine g_skT ?_ | refine g_skF ?_
    | ((first | apply s_plain | apply s_void | apply s_guard | apply g_goT | apply g_goF); · simp only [go_sem, Nat.reduceEqDiff, Nat.reduceAdd, Nat.reduceLeDiff, hm, ↓e1, ↓e2, hd2]; (first | done | rfl))
    | ((first | apply g_T | apply g_F | apply g_gT | apply g_gF); · intro q1_; (first | intro q2_ | have q2_ := q1_); simp only [go_sem, Nat.reduceEqDiff, Nat.reduceAdd, Nat.reduceLeDiff, hm, ↓e1, ↓e2, hd2, q1_, q2_]; (first | done | rfl))
    | (apply w_condX; · simp only [go_sem, Nat.reduceEqDiff, Nat.reduceAdd, Nat.reduceLeDiff, hm, ↓e1, ↓e2, hd2]; (first | done | rfl)); (first | refine wcd_T ?_ | refine wcd_F ?_)
    | refine w_skip ?_ | refine w_exit ?_ | refine w_ret ?_
    | fail
    )
    exact ⟨.inl rfl, rfl, by simp only [go_sem, Nat.reduceEqDiff, Nat.reduceAdd, Nat.reduceLeDiff, put_putI, stepC, hq, Nat.pow_one]⟩
theorem a279 (B : Has lib env) {s : List UInt8} (hs : s.length ≤ 4000000000) : AV env 279 [txt s] = some (.sc (.int .u32 ((4294967295 - crcC s : Nat) : Int))) := by
  refine AV_wp (B (279, d279) (by simp [lib])) rfl ?_
  (repeat' first
    | refine w_seq ?_ | refine w_rg ?_ | refine wo_nil ?_ | refine g_skU ?_ | refine g_skT ?_ | refine g_skF ?_
    | ((first | apply s_plain | apply s_void | apply s_guard | apply g_goT | apply g_goF); · simp only [go_sem, Nat.reduceEqDiff, Nat.reduceAdd, Nat.reduceLeDiff]; (first | done | rfl))
    | ((first | apply g_T | apply g_F | apply g_gT | apply g_gF); · intro q1_; (first | intro q2_ | have q2_ := q1_); simp only [go_sem, Nat.reduceEqDiff, Nat.reduceAdd, Nat.reduceLeDiff, q1_, q2_]; (first | done | rfl))
    | (apply w_condX; · simp only [go_sem, Nat.reduceEqDiff, Nat.reduceAdd, Nat.reduceLeDiff]; (first | done | rfl)); (first | refine wcd_T ?_ | refine wcd_F ?_)
    | refine w_skip ?_ | refine w_exit ?_ | refine w_ret ?_
    | fail
    )
  refine w_block (w_rangeF s.length (by omega) (fun i fr σ => σ.m 2000003 0 = some ⟨1, [.sc (.int .u32 ((crcC (s.take i) : Nat) : Int))], true, true⟩) ⟨by decide, rfl, rfl⟩ (fun _ _ _ _ h => ⟨h, h, h⟩) (by simp only [go_sem, Nat.reduceEqDiff, Nat.reduceAdd, Nat.reduceLeDiff, List.take_zero]; first | done | rfl) (by simp only [go_sem, Nat.reduceEqDiff, Nat.reduceAdd, Nat.reduceLeDiff]; first | done | rfl) (by simp only [go_sem, Nat.reduceEqDiff, Nat.reduceAdd, Nat.reduceLeDiff]; first | done | rfl) ?_ ?_)
  · rintro i fr1 σ1 hi g1 hti hfr
    have f0_0 := hfr 0 rfl; have f0_3 := hfr 3 rfl; have f0_4 := hfr 4 rfl; have f0_8 := hfr 8 rfl; try (simp only [go_sem, Nat.reduceEqDiff, Nat.reduceAdd, Nat.reduceLeDiff] at f0_0); try (simp only [go_sem, Nat.reduceEqDiff, Nat.reduceAdd, Nat.reduceLeDiff] at f0_3); try (simp only [go_sem, Nat.reduceEqDiff, Nat.reduceAdd, Nat.reduceLeDiff] at f0_4); try (simp only [go_sem, Nat.reduceEqDiff, Nat.reduceAdd, Nat.reduceLeDiff] at f0_8)
    have hc := crcC_lt (s.take i)
    have e1 : (0 : Int) ≤ (i : Int) := by omega
    have hq := byteD_q hi
    have hb : (byteD s i).toNat < 4294967296 := Nat.lt_of_lt_of_le (byteD s i).toNat_lt (by decide)
    have w1 : IntKind.u32.wrap ((byteD s i).toNat : Int) = ((byteD s i).toNat : Int) := by rw [IntKind.wrap_u32]; omega
    have hx := pb_xor (a := crcC (s.take i)) (b := (byteD s i).toNat) rfl hc hb
    have hlt : crcC (s.take i) ^^^ (byteD s i).toNat < 4294967296 := Nat.xor_lt_two_pow (n := 32) hc hb
    have hnext : crcC (s.take (i + 1)) = stepsC 8 (crcC (s.take i) ^^^ (byteD s i).toNat) := by rw [List.take_add_one, hq, Option.toList_some, crcC_snoc]; rfl
    rw [hnext]
    refine w_block ?_
    (repeat' first
    | refine w_seq ?_ | refine w_rg ?_ | refine wo_nil ?_ | refine g_skU ?_ | refine g_skT ?_ | refine g_skF ?_
    | ((first | apply s_plain | apply s_void | apply s_guard | apply g_goT | apply g_goF); · simp only [go_sem, Nat.reduceEqDiff, Nat.reduceAdd, Nat.reduceLeDiff, f0_0, f0_3, f0_4, f0_8, hti, e1, Int.toNat_natCast, hq, g1, w1, ↓hx]; (first | done | rfl))
    | ((first | apply g_T | apply g_F | apply g_gT | apply g_gF); · intro q1_; (first | intro q2_ | have q2_ := q1_); simp only [go_sem, Nat.reduceEqDiff, Nat.reduceAdd, Nat.reduceLeDiff, f0_0, f0_3, f0_4, f0_8, hti, e1, Int.toNat_natCast, hq, g1, w1, ↓hx, q1_, q2_]; (first | done | rfl))
    | (apply w_condX; · simp only [go_sem, Nat.reduceEqDiff, Nat.reduceAdd, Nat.reduceLeDiff, f0_0, f0_3, f0_4, f0_8, hti, e1, Int.toNat_natCast, hq, g1, w1, ↓hx]; (first | done | rfl)); (first | refine wcd_T ?_ | refine wcd_F ?_)
    | refine w_skip ?_ | refine w_exit ?_ | refine w_ret ?_
    | fail
    )
    generalize crcC (s.take i) ^^^ (byteD s i).toNat = c0 at hlt
    refine w_block (w_loopF (fun m fr σ => ∃ j : Nat, m = 8 - j ∧ j ≤ 8 ∧ fr 18 = .sc (.int .i64 (j : Int)) ∧ σ.m 2000003 0 = some ⟨1, [.sc (.int .u32 ((stepsC j c0 : Nat) : Int))], true, true⟩) ?_ 8 ?_)
    · rintro m fr2 σ2 ⟨j, rfl, hj, f18, g2⟩ hfr2
      have k4 := hfr2 4 rfl
      simp only [go_sem, Nat.reduceEqDiff, Nat.reduceAdd, Nat.reduceLeDiff, f0_0, f0_3, f0_4, f0_8] at k4
      by_cases h8 : j < 8
      · have hd : decide ((j : Int) < 8) = true := by simp; omega
        have w2 : IntKind.i64.wrap ((j : Int) + 1) = ((j + 1 : Nat) : Int) := by rw [IntKind.wrap_i64]; omega
        have h282 := a282 B (σ := σ2) (o := 2000003) (g := 0) (stepsC_lt hlt j) g2
        (repeat' first
    | refine w_seq ?_ | refine w_rg ?_ | refine wo_nil ?_ | refine g_skU ?_ | refine g_skT ?_ | refine g_skF ?_
    | ((first | apply s_plain | apply s_void | apply s_guard | apply g_goT | apply g_goF); · simp only [go_sem, Nat.reduceEqDiff, Nat.reduceAdd, Nat.reduceLeDiff, f18, hd]; (first | done | rfl))
    | ((first | apply g_T | apply g_F | apply g_gT | apply g_gF); · intro q1_; (first | intro q2_ | have q2_ := q1_); simp only [go_sem, Nat.reduceEqDiff, Nat.reduceAdd, Nat.reduceLeDiff, f18, hd, q1_, q2_]; (first | done | rfl))
    | (apply w_condX; · simp only [go_sem, Nat.reduceEqDiff, Nat.reduceAdd, Nat.reduceLeDiff, f18, hd]; (first | done | rfl)); (first | refine wcd_T ?_ | refine wcd_F ?_)
    | refine w_skip ?_ | refine w_exit ?_ | refine w_ret ?_
    | fail
    )
        refine w_block ?_
        (repeat' first
    | refine w_seq ?_ | refine w_rg ?_ | refine wo_nil ?_ | refine g_skU ?_ | refine g_skT ?_ | refine g_skF ?_
    | ((first | apply s_plain | apply s_void | apply s_guard | apply g_goT | apply g_goF); · simp only [go_sem, Nat.reduceEqDiff, Nat.reduceAdd, Nat.reduceLeDiff, k4]; (first | done | rfl))
    | ((first | apply g_T | apply g_F | apply g_gT | apply g_gF); · intro q1_; (first | intro q2_ | have q2_ := q1_); simp only [go_sem, Nat.reduceEqDiff, Nat.reduceAdd, Nat.reduceLeDiff, k4, q1_, q2_]; (first | done | rfl))
    | (apply w_condX; · simp only [go_sem, Nat.reduceEqDiff, Nat.reduceAdd, Nat.reduceLeDiff, k4]; (first | done | rfl)); (first | refine wcd_T ?_ | refine wcd_F ?_)
    | refine w_skip ?_ | refine w_exit ?_ | refine w_ret ?_
    | fail
    )
        refine s_plain (v := .tu []) (σ' := σ2.put 2000003 0 (some ⟨1, [.sc (.int .u32 ((stepC (stepsC j c0) : Nat) : Int))], true, true⟩)) (by simp only [go_sem, Nat.reduceEqDiff, Nat.reduceAdd, Nat.reduceLeDiff, k4]; exact h282) ?_
        (repeat' first
    | refine w_seq ?_ | refine w_rg ?_ | refine wo_nil ?_ | refine g_skU ?_ | refine g_skT ?_ | refine g_skF ?_
    | ((first | apply s_plain | apply s_void | apply s_guard | apply g_goT | apply g_goF); · simp only [go_sem, Nat.reduceEqDiff, Nat.reduceAdd, Nat.reduceLeDiff]; (first | done | rfl))
    | ((first | apply g_T | apply g_F | apply g_gT | apply g_gF); · intro q1_; (first | intro q2_ | have q2_ := q1_); simp only [go_sem, Nat.reduceEqDiff, Nat.reduceAdd, Nat.reduceLeDiff, q1_, q2_]; (first | done | rfl))
    | (apply w_condX; · simp only [go_sem, Nat.reduceEqDiff, Nat.reduceAdd, Nat.reduceLeDiff]; (first | done | rfl)); (first | refine wcd_T ?_ | refine wcd_F ?_)
    | refine w_skip ?_ | refine w_exit ?_ | refine w_ret ?_
    | fail
    )
        try simp only [if_true]
        try show Wp _ _ _ _ _
        (repeat' first
    | refine w_seq ?_ | refine w_rg ?_ | refine wo_nil ?_ | refine g_skU ?_ | refine g_skT ?_ | refine g_skF ?_
    | ((first | apply s_plain | apply s_void | apply s_guard | apply g_goT | apply g_goF); · simp only [go_sem, Nat.reduceEqDiff, Nat.reduceAdd, Nat.reduceLeDiff, f18, w2]; (first | done | rfl))
    | ((first | apply g_T | apply g_F | apply g_gT | apply g_gF); · intro q1_; (first | intro q2_ | have q2_ := q1_); simp only [go_sem, Nat.reduceEqDiff, Nat.reduceAdd, Nat.reduceLeDiff, f18, w2, q1_, q2_]; (first | done | rfl))
    | (apply w_condX; · simp only [go_sem, Nat.reduceEqDiff, Nat.reduceAdd, Nat.reduceLeDiff, f18, w2]; (first | done | rfl)); (first | refine wcd_T ?_ | refine wcd_F ?_)
    | refine w_skip ?_ | refine w_exit ?_ | refine w_ret ?_
    | fail
    )
        exact ⟨8 - (j + 1), by omega, j + 1, rfl, by omega, by simp only [go_sem, Nat.reduceEqDiff, Nat.reduceAdd, Nat.reduceLeDiff, w2], by simp only [go_sem, Nat.reduceEqDiff, Nat.reduceAdd, Nat.reduceLeDiff, stepsC]⟩
      · have : j = 8 := by omega
        subst this
        have hd : decide (((8 : Nat) : Int) < 8) = false := by simp
        (repeat' first
    | refine w_seq ?_ | refine w_rg ?_ | refine wo_nil ?_ | refine g_skU ?_ | refine g_skT ?_ | refine g_skF ?_
    | ((first | apply s_plain | apply s_void | apply s_guard | apply g_goT | apply g_goF); · simp only [go_sem, Nat.reduceEqDiff, Nat.reduceAdd, Nat.reduceLeDiff, f18, hd]; (first | done | rfl))
    | ((first | apply g_T | apply g_F | apply g_gT | apply g_gF); · intro q1_; (first | intro q2_ | have q2_ := q1_); simp only [go_sem, Nat.reduceEqDiff, Nat.reduceAdd, Nat.reduceLeDiff, f18, hd, q1_, q2_]; (first | done | rfl))
    | (apply w_condX; · simp only [go_sem, Nat.reduceEqDiff, Nat.reduceAdd, Nat.reduceLeDiff, f18, hd]; (first | done | rfl)); (first | refine wcd_T ?_ | refine wcd_F ?_)
    | refine w_skip ?_ | refine w_exit ?_ | refine w_ret ?_
    | fail
    )
        try simp only [if_true]
        exact g2
    · exact ⟨0, rfl, by omega, by simp only [go_sem, Nat.reduceEqDiff, Nat.reduceAdd, Nat.reduceLeDiff]; first | done | rfl, by simp only [go_sem, Nat.reduceEqDiff, Nat.reduceAdd, Nat.reduceLeDiff, stepsC]; first | done | rfl⟩
  · rintro fr1 σ1 g1 hfr
    have e0_2 := hfr 2 rfl; have e0_3 := hfr 3 rfl; try (simp only [go_sem, Nat.reduceEqDiff, Nat.reduceAdd, Nat.reduceLeDiff] at e0_2); try (simp only [go_sem, Nat.reduceEqDiff, Nat.reduceAdd, Nat.reduceLeDiff] at e0_3)
    rw [List.take_length] at g1
    have hc := crcC_lt s
    have hx := pb_xor (a := crcC s) (b := 4294967295) (z := 4294967295) rfl hc (by decide)
    rw [turn_all hc] at hx
    try simp only [if_true]
    (repeat' first
    | refine w_seq ?_ | refine w_rg ?_ | refine wo_nil ?_ | refine g_skU ?_ | refine g_skT ?_ | refine g_skF ?_
    | ((first | apply s_plain | apply s_void | apply s_guard | apply g_goT | apply g_goF); · simp only [go_sem, Nat.reduceEqDiff, Nat.reduceAdd, Nat.reduceLeDiff, e0_2, e0_3, g1, ↓hx]; (first | done | rfl))
    | ((first | apply g_T | apply g_F | apply g_gT | apply g_gF); · intro q1_; (first | intro q2_ | have q2_ := q1_); simp only [go_sem, Nat.reduceEqDiff, Nat.reduceAdd, Nat.reduceLeDiff, e0_2, e0_3, g1, ↓hx, q1_, q2_]; (first | done | rfl))
    | (apply w_condX; · simp only [go_sem, Nat.reduceEqDiff, Nat.reduceAdd, Nat.reduceLeDiff, e0_2, e0_3, g1, ↓hx]; (first | done | rfl)); (first | refine wcd_T ?_ | refine wcd_F ?_)
    | refine w_skip ?_ | refine w_exit ?_ | refine w_ret ?_
    | fail
    )
    exact ⟨by first | exact .inr rfl | exact .inr trivial | exact .inl rfl, by simp only [go_sem, Nat.reduceEqDiff, Nat.reduceAdd, Nat.reduceLeDiff, retOf, resOf]; first | done | rfl⟩
theorem chk_run {c : Nat} (hc : c < 4294967296) : (IntKind.u8.wrap (c : Int) = ((c % 256 : Nat) : Int)) ∧ (IntKind.u8.wrap ((c / 2 ^ 8 : Nat) : Int) = ((c / 256 % 256 : Nat) : Int)) ∧ (IntKind.u8.wrap ((c / 2 ^ 16 : Nat) : Int) = ((c / 65536 % 256 : Nat) : Int)) ∧ (IntKind.u8.wrap ((c / 2 ^ 24 : Nat) : Int) = ((c / 16777216 : Nat) : Int)) := by
  simp only [IntKind.wrap_u8, Nat.reducePow]
  omega
end

def d269 : Def := (.code 1 [.tmp 2, .tmp 3] (.seq (.rg false [⟨.some 2, .none, .mv (.c (.string ⟨#[]⟩))⟩, ⟨.some 3, .none, .mv (.c (.int .i64 0))⟩]) (.seq (.seq (.rg false [⟨.some 5, .none, .mv (.t 0)⟩, ⟨.some 6, .none, .bin .lss (.t 5) (.c (.int .i64 0))⟩, ⟨.some 7, .none, .mv (.t 6)⟩, ⟨.some 8, .some (7, false), .mv (.t 0)⟩, ⟨.some 9, .some (7, false), .bin .geq (.t 8) (.c (.int .i64 4611686018427387904))⟩, ⟨.some 10, .none, .pick (.t 7) (.c (.bool true)) (.t 9)⟩]) (.cond (.t 10) (.seq (.rg false [⟨.some 2, .none, .mv (.c (.string ⟨#[]⟩))⟩, ⟨.some 3, .none, .mv (.c (.int .i64 1))⟩]) .ret) .skip)) (.seq (.rg false [⟨.some 4, .none, .mv (.c (.slice .none 0 0))⟩]) (.seq (.block 0 (.loop (.seq (.seq (.rg false [⟨.some 11, .none, .mv (.t 0)⟩, ⟨.some 12, .none, .bin .geq (.t 11) (.c (.int .i64 128))⟩]) (.cond (.t 12) .skip (.exit 0))) (.seq (.block 1 (.rg false [⟨.some 15, .none, .mv (.t 4)⟩, ⟨.some 16, .none, .mv (.t 0)⟩, ⟨.some 17, .none, .bin .rem (.t 16) (.c (.int .i64 128))⟩, ⟨.some 18, .none, .bin .add (.t 17) (.c (.int .i64 128))⟩, ⟨.some 19, .none, .cvi .u8 (.t 18)⟩, ⟨.some 20, .none, .bsl 1 (.int .u8 0) 1 [(0, .t 19)]⟩, ⟨.some 21, .none, .app 1 1 false (.t 15) (.t 20)⟩, ⟨.some 4, .none, .mv (.t 21)⟩])) (.rg false [⟨.some 13, .none, .mv (.t 0)⟩, ⟨.some 14, .none, .bin .quo (.t 13) (.c (.int .i64 128))⟩, ⟨.some 0, .none, .mv (.t 14)⟩]))))) (.seq (.rg false [⟨.some 22, .none, .mv (.t 4)⟩, ⟨.some 23, .none, .mv (.t 0)⟩, ⟨.some 24, .none, .cvi .u8 (.t 23)⟩, ⟨.some 25, .none, .bsl 1 (.int .u8 0) 1 [(0, .t 24)]⟩, ⟨.some 26, .none, .app 1 1 false (.t 22) (.t 25)⟩, ⟨.some 27, .none, .b2s (.t 26)⟩, ⟨.some 2, .none, .mv (.t 27)⟩, ⟨.some 3, .none, .mv (.c (.int .i64 0))⟩]) .ret))))))
def d271 : Def := (.code 1 [.tmp 2, .tmp 3, .tmp 4] (.seq (.rg false [⟨.some 2, .none, .mv (.c (.int .i64 0))⟩, ⟨.some 3, .none, .mv (.c (.int .i64 0))⟩, ⟨.some 4, .none, .mv (.c (.int .i64 0))⟩]) (.seq (.rg false [⟨.some 5, .none, .mv (.c (.int .i64 0))⟩]) (.seq (.seq (.rg false [⟨.some 8, .none, .mv (.t 0)⟩, ⟨.some 9, .none, .lenS (.t 8)⟩, ⟨.some 10, .none, .mnmx false [.t 9, .c (.int .i64 9)]⟩, ⟨.some 11, .none, .mv (.c (.int .i64 0))⟩]) (.block 0 (.loop (.seq (.rg false [⟨.some 12, .none, .bin .lss (.t 11) (.t 10)⟩]) (.seq (.cond (.t 12) .skip (.exit 0)) (.seq (.block 1 (.seq (.rg false [⟨.some 13, .none, .mv (.t 11)⟩, ⟨.some 6, .none, .mv (.t 13)⟩]) (.seq (.rg false [⟨.some 14, .none, .mv (.t 0)⟩, ⟨.some 15, .none, .mv (.t 6)⟩, ⟨.some 16, .none, .ix (.t 14) (.t 15)⟩, ⟨.some 17, .none, .cvi .i64 (.t 16)⟩, ⟨.some 7, .none, .mv (.t 17)⟩]) (.seq (.rg false [⟨.some 18, .none, .mv (.t 5)⟩, ⟨.some 19, .none, .mv (.t 7)⟩, ⟨.some 20, .none, .bin .rem (.t 19) (.c (.int .i64 128))⟩, ⟨.some 21, .none, .mv (.t 6)⟩, ⟨.some 22, .none, .bin .mul (.c (.int .i64 7)) (.t 21)⟩, ⟨.some 23, .none, .bin .shl (.t 20) (.t 22)⟩, ⟨.some 24, .none, .bin .or (.t 18) (.t 23)⟩, ⟨.some 5, .none, .mv (.t 24)⟩]) (.seq (.seq (.rg false [⟨.some 25, .none, .mv (.t 7)⟩, ⟨.some 26, .none, .bin .geq (.t 25) (.c (.int .i64 128))⟩]) (.cond (.t 26) (.exit 1) .skip)) (.seq (.seq (.rg false [⟨.some 27, .none, .mv (.t 7)⟩, ⟨.some 28, .none, .bin .eql (.t 27) (.c (.int .i64 0))⟩, ⟨.some 29, .none, .mv (.t 28)⟩, ⟨.some 30, .some (29, true), .mv (.t 6)⟩, ⟨.some 31, .some (29, true), .bin .gtr (.t 30) (.c (.int .i64 0))⟩, ⟨.some 32, .none, .pick (.t 29) (.t 31) (.c (.bool false))⟩]) (.cond (.t 32) (.seq (.rg false [⟨.some 2, .none, .mv (.c (.int .i64 0))⟩, ⟨.some 3, .none, .mv (.c (.int .i64 0))⟩, ⟨.some 4, .none, .mv (.c (.int .i64 6))⟩]) .ret) .skip)) (.seq (.rg false [⟨.some 33, .none, .mv (.t 5)⟩, ⟨.some 34, .none, .mv (.t 6)⟩, ⟨.some 35, .none, .bin .add (.t 34) (.c (.int .i64 1))⟩, ⟨.some 2, .none, .mv (.t 33)⟩, ⟨.some 3, .none, .mv (.t 35)⟩, ⟨.some 4, .none, .mv (.c (.int .i64 0))⟩]) .ret))))))) (.rg false [⟨.some 36, .none, .bin .add (.t 11) (.c (.int .i64 1))⟩, ⟨.some 11, .none, .mv (.t 36)⟩]))))))) (.seq (.seq (.rg false [⟨.some 37, .none, .mv (.t 0)⟩, ⟨.some 38, .none, .lenS (.t 37)⟩, ⟨.some 39, .none, .bin .geq (.t 38) (.c (.int .i64 9))⟩]) (.cond (.t 39) (.seq (.rg false [⟨.some 2, .none, .mv (.c (.int .i64 0))⟩, ⟨.some 3, .none, .mv (.c (.int .i64 0))⟩, ⟨.some 4, .none, .mv (.c (.int .i64 2))⟩]) .ret) .skip)) (.seq (.rg false [⟨.some 2, .none, .mv (.c (.int .i64 0))⟩, ⟨.some 3, .none, .mv (.c (.int .i64 0))⟩, ⟨.some 4, .none, .mv (.c (.int .i64 3))⟩]) .ret))))))
def lic : List (Nat × Def) := [(269, d269), (271, d271)]
theorem byteOf_of (bs : List UInt8) : (bytesOf bs).mapM byteOf = some bs := by
  induction bs with
  | nil => rfl
  | cons b bs ih =>
    simp only [bytesOf, List.map_cons] at ih ⊢
    rw [mapM_cons']
    simp only [byteOf, Int.toNat_natCast, UInt8.ofNat_toNat, Option.bind_some, ih]
theorem byteOf_nat (n : Nat) : byteOf (.sc (.int .u8 (n : Int))) = some (UInt8.ofNat n) := by simp [byteOf]
theorem pb_or {a b : Nat} (ha : a < 9223372036854775808) (hb : b < 9223372036854775808) : pbin .or (.int .i64 (a : Int)) (.int .i64 (b : Int)) = some (.int .i64 ((a ||| b : Nat) : Int)) := by
  have h : a ||| b < 9223372036854775808 := Nat.or_lt_two_pow (n := 63) ha hb
  have e : ∀ {c : Nat}, c < 9223372036854775808 → (BitVec.ofInt IntKind.i64.bits (c : Int)).toNat = c := by
    intro c hc
    show (BitVec.ofInt 64 (c : Int)).toNat = c
    rw [BitVec.toNat_ofInt]
    omega
  simp only [pbin, if_true]
  have e4 : IntKind.i64.wrap ((a ||| b : Nat) : Int) = ((a ||| b : Nat) : Int) := by
    generalize a ||| b = c at h
    rw [IntKind.wrap_i64]; omega
  rw [BitVec.toNat_or, e ha, e hb, e4]
theorem pb_shl {a k : Nat} (hk : k ≤ 56) (ha : a < 128) : pbin .shl (.int .i64 (a : Int)) (.int .i64 (k : Int)) = some (.int .i64 ((a * 2 ^ k : Nat) : Int)) := by
  have h1 : ¬ ((k : Int) < 0) := by omega
  have h2 : 2 ^ k ≤ 72057594037927936 := Nat.pow_le_pow_right (n := 2) (by decide) hk
  have h3 : a * 2 ^ k ≤ 127 * 72057594037927936 := Nat.mul_le_mul (by omega) h2
  have e : min (k : Int).toNat IntKind.i64.bits = k := by show min (k : Int).toNat 64 = k; omega
  have e2 : (a : Int) * 2 ^ k = ((a * 2 ^ k : Nat) : Int) := by rw [Int.natCast_mul, Int.natCast_pow]; rfl
  generalize hz : a * 2 ^ k = z at h3 e2
  have e3 : IntKind.i64.wrap ((a : Int) * 2 ^ k) = (z : Int) := by rw [e2, IntKind.wrap_i64]; omega
  show (if (k : Int) < 0 then none else some (Value.int .i64 (IntKind.i64.wrap ((a : Int) * 2 ^ (min (k : Int).toNat IntKind.i64.bits))))) = _
  rw [if_neg h1, e, e3]
section
variable {env : Nat → Option Def} {fr : Fr} {σ σ' σ'' : St} {K : Fr → St → Prop} {Q : X → Fr → St → Prop} {p : PV} {bs : List UInt8}
theorem a270 (B : Has lib env) {s : List UInt8} (hs : s.length ≤ 4000000000) : AV env 270 [txt s] = some (txt (chkB s)) := by
  have h := a279 B hs
  have hc := crcC_lt s
  unfold chkB
  generalize hg : 4294967295 - crcC s = c at h
  have hc : c < 4294967296 := by omega
  obtain ⟨u0, u1, u2, u3⟩ := chk_run hc
  have e1 := pb_shr (a := c) 8 (z := 8) rfl (by decide) hc
  have e2 := pb_shr (a := c) 16 (z := 16) rfl (by decide) hc
  have e3 := pb_shr (a := c) 24 (z := 24) rfl (by decide) hc
  refine AV_wp (B (270, d270) (by simp [lib])) rfl ?_
  (repeat' first
    | refine w_seq ?_ | refine w_rg ?_ | refine wo_nil ?_ | refine g_skU ?_ | refine g_skT ?_ | refine g_skF ?_
    | ((first | apply s_plain | apply s_void | apply s_guard | apply g_goT | apply g_goF); · simp only [go_sem, Nat.reduceEqDiff, Nat.reduceAdd, Nat.reduceLeDiff, h, ↓e1, ↓e2, ↓e3, u0, u1, u2, u3, elemsOf, byteOf_nat]; (first | done | rfl))
    | ((first | apply g_T | apply g_F | apply g_gT | apply g_gF); · intro q1_; (first | intro q2_ | have q2_ := q1_); simp only [go_sem, Nat.reduceEqDiff, Nat.reduceAdd, Nat.reduceLeDiff, h, ↓e1, ↓e2, ↓e3, u0, u1, u2, u3, elemsOf, byteOf_nat, q1_, q2_]; (first | done | rfl))
    | (apply w_condX; · simp only [go_sem, Nat.reduceEqDiff, Nat.reduceAdd, Nat.reduceLeDiff, h, ↓e1, ↓e2, ↓e3, u0, u1, u2, u3, elemsOf, byteOf_nat]; (first | done | rfl)); (first | refine wcd_T ?_ | refine wcd_F ?_)
    | refine w_skip ?_ | refine w_exit ?_ | refine w_ret ?_
    | fail
    )
  exact ⟨by first | exact .inr rfl | exact .inr trivial | exact .inl rfl, by simp only [go_sem, Nat.reduceEqDiff, Nat.reduceAdd, Nat.reduceLeDiff, retOf, resOf]; first | done | rfl⟩
theorem a269 (C : Has lic env) {n : Nat} (hn : n ≤ 1000000) : AV env 269 [.sc (.int .i64 (n : Int))] = some (.tu [txt (encN n), .sc (.int .i64 0)]) := by
  have h1 : decide ((n : Int) < 0) = false := by simp
  have h2 : decide ((n : Int) ≥ 4611686018427387904) = false := by simp; omega
  refine AV_wp (C (269, d269) (by simp [lic])) rfl ?_
  (repeat' first
    | refine w_seq ?_ | refine w_rg ?_ | refine wo_nil ?_ | refine g_skU ?_ | refine g_skT ?_ | refine g_skF ?_
    | ((first | apply s_plain | apply s_void | apply s_guard | apply g_goT | apply g_goF); · simp only [go_sem, Nat.reduceEqDiff, Nat.reduceAdd, Nat.reduceLeDiff, h1, h2]; (first | done | rfl))
    | ((first | apply g_T | apply g_F | apply g_gT | apply g_gF); · intro q1_; (first | intro q2_ | have q2_ := q1_); simp only [go_sem, Nat.reduceEqDiff, Nat.reduceAdd, Nat.reduceLeDiff, h1, h2, q1_, q2_]; (first | done | rfl))
    | (apply w_condX; · simp only [go_sem, Nat.reduceEqDiff, Nat.reduceAdd, Nat.reduceLeDiff, h1, h2]; (first | done | rfl)); (first | refine wcd_T ?_ | refine wcd_F ?_)
    | refine w_skip ?_ | refine w_exit ?_ | refine w_ret ?_
    | fail
    )
  refine w_block (w_loopF (fun m fr σ => ∃ bs : List UInt8, m ≤ n ∧ bs.length + m ≤ n ∧ fr 0 = .sc (.int .i64 (m : Int)) ∧ Gat σ [21, 26] 1 false (fr 4) (bytesOf bs) ∧ bs ++ encN m = encN n) ?_ n ?_)
  · rintro q fr1 σ1 ⟨bs, hq, hl, f0, hg, he⟩ hfr
    by_cases h128 : q ≥ 128
    · have hd : decide ((q : Int) ≥ 128) = true := by simp; omega
      have e1 : (q : Int).tmod 128 = ((q % 128 : Nat) : Int) := tmod_nat q 128 rfl
      have e2 : IntKind.i64.wrap ((q : Int).tdiv 128) = ((q / 128 : Nat) : Int) := by rw [tdiv_nat q 128 (z := 128) rfl, IntKind.wrap_i64]; omega
      have e3 : IntKind.i64.wrap (((q % 128 : Nat) : Int) + 128) = ((q % 128 + 128 : Nat) : Int) := by rw [IntKind.wrap_i64]; omega
      have e4 : IntKind.u8.wrap ((q % 128 + 128 : Nat) : Int) = ((q % 128 + 128 : Nat) : Int) := by rw [IntKind.wrap_u8]; omega
      have n1 : ¬ ((128 : Int) = 0) := by decide
      have hsm : ((UInt8.ofNat (q % 128 + 128)).toNat : Int) = ((q % 128 + 128 : Nat) : Int) := by rw [ofNat_small (by omega)]
      (repeat' first
    | refine w_seq ?_ | refine w_rg ?_ | refine wo_nil ?_ | refine g_skU ?_ | refine g_skT ?_ | refine g_skF ?_
    | ((first | apply s_plain | apply s_void | apply s_guard | apply g_goT | apply g_goF); · simp only [go_sem, Nat.reduceEqDiff, Nat.reduceAdd, Nat.reduceLeDiff, f0, hd]; (first | done | rfl))
    | ((first | apply g_T | apply g_F | apply g_gT | apply g_gF); · intro q1_; (first | intro q2_ | have q2_ := q1_); simp only [go_sem, Nat.reduceEqDiff, Nat.reduceAdd, Nat.reduceLeDiff, f0, hd, q1_, q2_]; (first | done | rfl))
    | (apply w_condX; · simp only [go_sem, Nat.reduceEqDiff, Nat.reduceAdd, Nat.reduceLeDiff, f0, hd]; (first | done | rfl)); (first | refine wcd_T ?_ | refine wcd_F ?_)
    | refine w_skip ?_ | refine w_exit ?_ | refine w_ret ?_
    | fail
    )
      refine w_block ?_
      (repeat' first
    | refine w_seq ?_ | refine w_rg ?_ | refine wo_nil ?_ | refine g_skU ?_ | refine g_skT ?_ | refine g_skF ?_
    | ((first | apply s_plain | apply s_void | apply s_guard | apply g_goT | apply g_goF); · simp only [go_sem, Nat.reduceEqDiff, Nat.reduceAdd, Nat.reduceLeDiff, f0, e1, e3, e4, n1]; (first | done | rfl))
    | ((first | apply g_T | apply g_F | apply g_gT | apply g_gF); · intro q1_; (first | intro q2_ | have q2_ := q1_); simp only [go_sem, Nat.reduceEqDiff, Nat.reduceAdd, Nat.reduceLeDiff, f0, e1, e3, e4, n1, q1_, q2_]; (first | done | rfl))
    | fail
    )
      refine s_gat (os := [21, 26]) (w := false) (xs := bytesOf bs) (e := .sc (.int .u8 ((q % 128 + 128 : Nat) : Int))) (by simp only [go_sem, Nat.reduceEqDiff, Nat.reduceAdd, Nat.reduceLeDiff]; exact hg.new _) (by decide) (by simp only [go_sem, Nat.reduceEqDiff, Nat.reduceAdd, Nat.reduceLeDiff, srcOf, elemsOf]) rfl rfl (by rw [bytesOf_len]; omega) ?_
      intro p2 σ2 hg2
      have hg3 : Gat σ2 [21, 26] 1 false p2 (bytesOf (bs ++ [UInt8.ofNat (q % 128 + 128)])) := by
        rw [bytesOf, List.map_append, List.map_singleton, hsm]; exact hg2
      (repeat' first
    | refine w_seq ?_ | refine w_rg ?_ | refine wo_nil ?_ | refine g_skU ?_ | refine g_skT ?_ | refine g_skF ?_
    | ((first | apply s_plain | apply s_void | apply s_guard | apply g_goT | apply g_goF); · simp only [go_sem, Nat.reduceEqDiff, Nat.reduceAdd, Nat.reduceLeDiff]; (first | done | rfl))
    | ((first | apply g_T | apply g_F | apply g_gT | apply g_gF); · intro q1_; (first | intro q2_ | have q2_ := q1_); simp only [go_sem, Nat.reduceEqDiff, Nat.reduceAdd, Nat.reduceLeDiff, q1_, q2_]; (first | done | rfl))
    | (apply w_condX; · simp only [go_sem, Nat.reduceEqDiff, Nat.reduceAdd, Nat.reduceLeDiff]; (first | done | rfl)); (first | refine wcd_T ?_ | refine wcd_F ?_)
    | refine w_skip ?_ | refine w_exit ?_ | refine w_ret ?_
    | fail
    )
      try simp only [if_true]
      try show Wp _ _ _ _ _
      (repeat' first
    | refine w_seq ?_ | refine w_rg ?_ | refine wo_nil ?_ | refine g_skU ?_ | refine g_skT ?_ | refine g_skF ?_
    | ((first | apply s_plain | apply s_void | apply s_guard | apply g_goT | apply g_goF); · simp only [go_sem, Nat.reduceEqDiff, Nat.reduceAdd, Nat.reduceLeDiff, f0, e2, n1]; (first | done | rfl))
    | ((first | apply g_T | apply g_F | apply g_gT | apply g_gF); · intro q1_; (first | intro q2_ | have q2_ := q1_); simp only [go_sem, Nat.reduceEqDiff, Nat.reduceAdd, Nat.reduceLeDiff, f0, e2, n1, q1_, q2_]; (first | done | rfl))
    | (apply w_condX; · simp only [go_sem, Nat.reduceEqDiff, Nat.reduceAdd, Nat.reduceLeDiff, f0, e2, n1]; (first | done | rfl)); (first | refine wcd_T ?_ | refine wcd_F ?_)
    | refine w_skip ?_ | refine w_exit ?_ | refine w_ret ?_
    | fail
    )
      refine ⟨q / 128, by omega, bs ++ [UInt8.ofNat (q % 128 + 128)], by omega, by rw [List.length_append]; simp; omega, by simp only [go_sem, Nat.reduceEqDiff, Nat.reduceAdd, Nat.reduceLeDiff, e2], by simp only [go_sem, Nat.reduceEqDiff, Nat.reduceAdd, Nat.reduceLeDiff]; exact hg3, ?_⟩
      rw [List.append_assoc, ← he]
      congr 1
      rw [encN.eq_def q, dif_neg (by omega)]
      rfl
    · have hd : decide ((q : Int) ≥ 128) = false := by simp; omega
      have e4 : IntKind.u8.wrap ((q : Nat) : Int) = ((q : Nat) : Int) := by rw [IntKind.wrap_u8]; omega
      have hsm : ((UInt8.ofNat q).toNat : Int) = (q : Int) := by rw [ofNat_small (by omega)]
      rw [encN, dif_pos (by omega)] at he
      (repeat' first
    | refine w_seq ?_ | refine w_rg ?_ | refine wo_nil ?_ | refine g_skU ?_ | refine g_skT ?_ | refine g_skF ?_
    | ((first | apply s_plain | apply s_void | apply s_guard | apply g_goT | apply g_goF); · simp only [go_sem, Nat.reduceEqDiff, Nat.reduceAdd, Nat.reduceLeDiff, f0, hd]; (first | done | rfl))
    | ((first | apply g_T | apply g_F | apply g_gT | apply g_gF); · intro q1_; (first | intro q2_ | have q2_ := q1_); simp only [go_sem, Nat.reduceEqDiff, Nat.reduceAdd, Nat.reduceLeDiff, f0, hd, q1_, q2_]; (first | done | rfl))
    | (apply w_condX; · simp only [go_sem, Nat.reduceEqDiff, Nat.reduceAdd, Nat.reduceLeDiff, f0, hd]; (first | done | rfl)); (first | refine wcd_T ?_ | refine wcd_F ?_)
    | refine w_skip ?_ | refine w_exit ?_ | refine w_ret ?_
    | fail
    )
      try simp only [if_true]
      try show Wp _ _ _ _ _
      (repeat' first
    | refine w_seq ?_ | refine w_rg ?_ | refine wo_nil ?_ | refine g_skU ?_ | refine g_skT ?_ | refine g_skF ?_
    | ((first | apply s_plain | apply s_void | apply s_guard | apply g_goT | apply g_goF); · simp only [go_sem, Nat.reduceEqDiff, Nat.reduceAdd, Nat.reduceLeDiff, f0, e4]; (first | done | rfl))
    | ((first | apply g_T | apply g_F | apply g_gT | apply g_gF); · intro q1_; (first | intro q2_ | have q2_ := q1_); simp only [go_sem, Nat.reduceEqDiff, Nat.reduceAdd, Nat.reduceLeDiff, f0, e4, q1_, q2_]; (first | done | rfl))
    | fail
    )
      refine s_gat (os := [21, 26]) (w := false) (xs := bytesOf bs) (e := .sc (.int .u8 ((q : Nat) : Int))) (by simp only [go_sem, Nat.reduceEqDiff, Nat.reduceAdd, Nat.reduceLeDiff]; exact hg.new _) (by decide) (by simp only [go_sem, Nat.reduceEqDiff, Nat.reduceAdd, Nat.reduceLeDiff, srcOf, elemsOf, e4]) rfl rfl (by rw [bytesOf_len]; omega) ?_
      intro p2 σ2 hg2
      have hg3 : Gat σ2 [21, 26] 1 false p2 (bytesOf (encN n)) := by
        rw [← he, bytesOf, List.map_append, List.map_singleton, hsm]; exact hg2
      have hel := gat_elems hg3
      (repeat' first
    | refine w_seq ?_ | refine w_rg ?_ | refine wo_nil ?_ | refine g_skU ?_ | refine g_skT ?_ | refine g_skF ?_
    | ((first | apply s_plain | apply s_void | apply s_guard | apply g_goT | apply g_goF); · simp only [go_sem, Nat.reduceEqDiff, Nat.reduceAdd, Nat.reduceLeDiff, hel, byteOf_of]; (first | done | rfl))
    | ((first | apply g_T | apply g_F | apply g_gT | apply g_gF); · intro q1_; (first | intro q2_ | have q2_ := q1_); simp only [go_sem, Nat.reduceEqDiff, Nat.reduceAdd, Nat.reduceLeDiff, hel, byteOf_of, q1_, q2_]; (first | done | rfl))
    | (apply w_condX; · simp only [go_sem, Nat.reduceEqDiff, Nat.reduceAdd, Nat.reduceLeDiff, hel, byteOf_of]; (first | done | rfl)); (first | refine wcd_T ?_ | refine wcd_F ?_)
    | refine w_skip ?_ | refine w_exit ?_ | refine w_ret ?_
    | fail
    )
      exact ⟨by first | exact .inr rfl | exact .inr trivial | exact .inl rfl, by simp only [go_sem, Nat.reduceEqDiff, Nat.reduceAdd, Nat.reduceLeDiff, retOf, resOf]; first | done | rfl⟩
  · exact ⟨[], Nat.le_refl _, by simp, by simp only [go_sem, Nat.reduceEqDiff, Nat.reduceAdd, Nat.reduceLeDiff], by simp only [go_sem, Nat.reduceEqDiff, Nat.reduceAdd, Nat.reduceLeDiff]; exact .em, rfl⟩
theorem a271 (C : Has lic env) {s : List UInt8} (hs : s.length ≤ 4000000000) : AV env 271 [txt s] = some (.tu [.sc (.int .i64 ((headN s).1 : Int)), .sc (.int .i64 ((headN s).2.1 : Int)), .sc (.int .i64 (headN s).2.2)]) := by
  refine AV_wp (C (271, d271) (by simp [lic])) rfl ?_
  have hmn : mnmx false [.sc (.int .i64 (s.length : Int)), .sc (.int .i64 9)] = some (.sc (.int .i64 ((min s.length 9 : Nat) : Int))) := by
    rw [mn2]; congr 3; omega
  (repeat' first
    | refine w_seq ?_ | refine w_rg ?_ | refine wo_nil ?_ | refine g_skU ?_ | refine g_skT ?_ | refine g_skF ?_
    | ((first | apply s_plain | apply s_void | apply s_guard | apply g_goT | apply g_goF); · simp only [go_sem, Nat.reduceEqDiff, Nat.reduceAdd, Nat.reduceLeDiff, hmn]; (first | done | rfl))
    | ((first | apply g_T | apply g_F | apply g_gT | apply g_gF); · intro q1_; (first | intro q2_ | have q2_ := q1_); simp only [go_sem, Nat.reduceEqDiff, Nat.reduceAdd, Nat.reduceLeDiff, hmn, q1_, q2_]; (first | done | rfl))
    | (apply w_condX; · simp only [go_sem, Nat.reduceEqDiff, Nat.reduceAdd, Nat.reduceLeDiff, hmn]; (first | done | rfl)); (first | refine wcd_T ?_ | refine wcd_F ?_)
    | refine w_skip ?_ | refine w_exit ?_ | refine w_ret ?_
    | fail
    )
  refine w_block (w_rangeF (min s.length 9) (by omega) (fun i fr σ => fr 5 = .sc (.int .i64 ((sumN s i : Nat) : Int)) ∧ ∀ j, j < i → ¬ (byteD s j).toNat < 128) ⟨by decide, rfl, rfl⟩ (fun i fr σ v h => ⟨by simp only [go_sem, Nat.reduceEqDiff, Nat.reduceAdd, Nat.reduceLeDiff]; exact h, by simp only [go_sem, Nat.reduceEqDiff, Nat.reduceAdd, Nat.reduceLeDiff]; exact h, by simp only [go_sem, Nat.reduceEqDiff, Nat.reduceAdd, Nat.reduceLeDiff]; exact h⟩) ⟨by simp only [go_sem, Nat.reduceEqDiff, Nat.reduceAdd, Nat.reduceLeDiff, sumN]; first | done | rfl, fun j hj => by omega⟩ (by simp only [go_sem, Nat.reduceEqDiff, Nat.reduceAdd, Nat.reduceLeDiff]; first | done | rfl) (by simp only [go_sem, Nat.reduceEqDiff, Nat.reduceAdd, Nat.reduceLeDiff, hmn]; first | done | rfl) ?_ ?_)
  · rintro i fr1 σ1 hi ⟨g5, hno⟩ hti hfr
    have f0_0 := hfr 0 rfl; have f0_10 := hfr 10 rfl; try (simp only [go_sem, Nat.reduceEqDiff, Nat.reduceAdd, Nat.reduceLeDiff] at f0_0); try (simp only [go_sem, Nat.reduceEqDiff, Nat.reduceAdd, Nat.reduceLeDiff] at f0_10)
    have hil : i < s.length := by omega
    have e1 : (0 : Int) ≤ (i : Int) := by omega
    have hq := byteD_q hil
    have hbl := (byteD s i).toNat_lt
    have w1 : IntKind.i64.wrap ((byteD s i).toNat : Int) = ((byteD s i).toNat : Int) := by rw [IntKind.wrap_i64]; omega
    have e2 : ((byteD s i).toNat : Int).tmod 128 = (((byteD s i).toNat % 128 : Nat) : Int) := tmod_nat _ 128 rfl
    have e3 : IntKind.i64.wrap (7 * (i : Int)) = ((7 * i : Nat) : Int) := by rw [IntKind.wrap_i64]; omega
    have hsl := pb_shl (a := (byteD s i).toNat % 128) (k := 7 * i) (by omega) (Nat.mod_lt _ (by decide))
    have hp : 2 ^ (7 * i) = 128 ^ i := by rw [Nat.pow_mul]
    have hsum := sumN_lt s i
    have hsum2 := sumN_lt s (i + 1)
    have h128 : 128 ^ (i + 1) ≤ 128 ^ 9 := Nat.pow_le_pow_right (by decide) (by omega)
    have h63 : (128 : Nat) ^ 9 = 9223372036854775808 := rfl
    have hsucc : sumN s (i + 1) = sumN s i + (byteD s i).toNat % 128 * 2 ^ (7 * i) := by rw [hp]; rfl
    have hor := pb_or (a := sumN s i) (b := (byteD s i).toNat % 128 * 2 ^ (7 * i)) (by omega) (by omega)
    rw [or_add (by rw [hp]; exact hsum), ← hsucc] at hor
    have n1 : ¬ ((128 : Int) = 0) := by decide
    refine w_block ?_
    (repeat' first
    | refine w_seq ?_ | refine w_rg ?_ | refine wo_nil ?_ | refine g_skU ?_ | refine g_skT ?_ | refine g_skF ?_
    | ((first | apply s_plain | apply s_void | apply s_guard | apply g_goT | apply g_goF); · simp only [go_sem, Nat.reduceEqDiff, Nat.reduceAdd, Nat.reduceLeDiff, f0_0, f0_10, hti, g5, e1, Int.toNat_natCast, hq, w1, e2, e3, n1, ↓hsl, ↓hor]; (first | done | rfl))
    | ((first | apply g_T | apply g_F | apply g_gT | apply g_gF); · intro q1_; (first | intro q2_ | have q2_ := q1_); simp only [go_sem, Nat.reduceEqDiff, Nat.reduceAdd, Nat.reduceLeDiff, f0_0, f0_10, hti, g5, e1, Int.toNat_natCast, hq, w1, e2, e3, n1, ↓hsl, ↓hor, q1_, q2_]; (first | done | rfl))
    | (apply w_condX; · simp only [go_sem, Nat.reduceEqDiff, Nat.reduceAdd, Nat.reduceLeDiff, f0_0, f0_10, hti, g5, e1, Int.toNat_natCast, hq, w1, e2, e3, n1, ↓hsl, ↓hor]; (first | done | rfl)); (first | refine wcd_T ?_ | refine wcd_F ?_)
    | refine w_skip ?_ | refine w_exit ?_ | refine w_ret ?_
    | fail
    )
    by_cases hb : (byteD s i).toNat < 128
    · have hd : decide (((byteD s i).toNat : Int) ≥ 128) = false := by simp; omega
      have hat := head_at hil (by omega) hb hno
      by_cases hz : (byteD s i).toNat = 0 ∧ i > 0
      · rw [if_pos hz] at hat
        have d1 : (((byteD s i).toNat : Int) == 0) = true := by simp [hz.1]
        have d2 : decide ((i : Int) > 0) = true := by simp; omega
        (repeat' first
    | refine w_seq ?_ | refine w_rg ?_ | refine wo_nil ?_ | refine g_skU ?_ | refine g_skT ?_ | refine g_skF ?_
    | ((first | apply s_plain | apply s_void | apply s_guard | apply g_goT | apply g_goF); · simp only [go_sem, Nat.reduceEqDiff, Nat.reduceAdd, Nat.reduceLeDiff, hd, d1, d2]; (first | done | rfl))
    | ((first | apply g_T | apply g_F | apply g_gT | apply g_gF); · intro q1_; (first | intro q2_ | have q2_ := q1_); simp only [go_sem, Nat.reduceEqDiff, Nat.reduceAdd, Nat.reduceLeDiff, hd, d1, d2, q1_, q2_]; (first | done | rfl))
    | (apply w_condX; · simp only [go_sem, Nat.reduceEqDiff, Nat.reduceAdd, Nat.reduceLeDiff, hd, d1, d2]; (first | done | rfl)); (first | refine wcd_T ?_ | refine wcd_F ?_)
    | refine w_skip ?_ | refine w_exit ?_ | refine w_ret ?_
    | fail
    )
        exact ⟨by first | exact .inr rfl | exact .inr trivial | exact .inl rfl, by simp only [go_sem, Nat.reduceEqDiff, Nat.reduceAdd, Nat.reduceLeDiff, retOf, resOf, hat]; first | done | rfl⟩
        all_goals first | done | rfl
      · rw [if_neg hz] at hat
        have w4 : IntKind.i64.wrap ((i : Int) + 1) = ((i + 1 : Nat) : Int) := by rw [IntKind.wrap_i64]; omega
        have d3 : ((((byteD s i).toNat : Int) == 0) && decide ((i : Int) > 0)) = false := by
          rw [Bool.eq_false_iff]
          intro h
          simp only [Bool.and_eq_true, beq_iff_eq, decide_eq_true_eq] at h
          exact hz ⟨by omega, by omega⟩
        (repeat' first
    | refine w_seq ?_ | refine w_rg ?_ | refine wo_nil ?_ | refine g_skU ?_ | refine g_skT ?_ | refine g_skF ?_
    | ((first | apply s_plain | apply s_void | apply s_guard | apply g_goT | apply g_goF); · simp only [go_sem, Nat.reduceEqDiff, Nat.reduceAdd, Nat.reduceLeDiff, hd, d3, w4]; (first | done | rfl))
    | ((first | apply g_T | apply g_F | apply g_gT | apply g_gF); · intro q1_; (first | intro q2_ | have q2_ := q1_); simp only [go_sem, Nat.reduceEqDiff, Nat.reduceAdd, Nat.reduceLeDiff, hd, d3, w4, q1_, q2_]; (first | done | rfl))
    | (apply w_condX; · simp only [go_sem, Nat.reduceEqDiff, Nat.reduceAdd, Nat.reduceLeDiff, hd, d3, w4]; (first | done | rfl)); (first | refine wcd_T ?_ | refine wcd_F ?_)
    | refine w_skip ?_ | refine w_exit ?_ | refine w_ret ?_
    | fail
    )
        exact ⟨by first | exact .inr rfl | exact .inr trivial | exact .inl rfl, by simp only [go_sem, Nat.reduceEqDiff, Nat.reduceAdd, Nat.reduceLeDiff, retOf, resOf, hat]; first | done | rfl⟩
    · have hd : decide (((byteD s i).toNat : Int) ≥ 128) = true := by simp; omega
      (repeat' first
    | refine w_seq ?_ | refine w_rg ?_ | refine wo_nil ?_ | refine g_skU ?_ | refine g_skT ?_ | refine g_skF ?_
    | ((first | apply s_plain | apply s_void | apply s_guard | apply g_goT | apply g_goF); · simp only [go_sem, Nat.reduceEqDiff, Nat.reduceAdd, Nat.reduceLeDiff, hd]; (first | done | rfl))
    | ((first | apply g_T | apply g_F | apply g_gT | apply g_gF); · intro q1_; (first | intro q2_ | have q2_ := q1_); simp only [go_sem, Nat.reduceEqDiff, Nat.reduceAdd, Nat.reduceLeDiff, hd, q1_, q2_]; (first | done | rfl))
    | (apply w_condX; · simp only [go_sem, Nat.reduceEqDiff, Nat.reduceAdd, Nat.reduceLeDiff, hd]; (first | done | rfl)); (first | refine wcd_T ?_ | refine wcd_F ?_)
    | refine w_skip ?_ | refine w_exit ?_ | refine w_ret ?_
    | fail
    )
      try simp only [if_true]
      refine ⟨by simp only [go_sem, Nat.reduceEqDiff, Nat.reduceAdd, Nat.reduceLeDiff], fun j hj => ?_⟩
      rcases Nat.lt_succ_iff_lt_or_eq.1 hj with h | h
      · exact hno j h
      · subst h; exact hb
  · rintro fr1 σ1 ⟨g5, hno⟩ hfr
    have e0_0 := hfr 0 rfl; try (simp only [go_sem, Nat.reduceEqDiff, Nat.reduceAdd, Nat.reduceLeDiff] at e0_0)
    have hh := head_none hno
    try simp only [if_true]
    by_cases h9 : s.length < 9
    · rw [if_pos h9] at hh
      have hd : decide ((s.length : Int) ≥ 9) = false := by simp; omega
      (repeat' first
    | refine w_seq ?_ | refine w_rg ?_ | refine wo_nil ?_ | refine g_skU ?_ | refine g_skT ?_ | refine g_skF ?_
    | ((first | apply s_plain | apply s_void | apply s_guard | apply g_goT | apply g_goF); · simp only [go_sem, Nat.reduceEqDiff, Nat.reduceAdd, Nat.reduceLeDiff, e0_0, hd]; (first | done | rfl))
    | ((first | apply g_T | apply g_F | apply g_gT | apply g_gF); · intro q1_; (first | intro q2_ | have q2_ := q1_); simp only [go_sem, Nat.reduceEqDiff, Nat.reduceAdd, Nat.reduceLeDiff, e0_0, hd, q1_, q2_]; (first | done | rfl))
    | (apply w_condX; · simp only [go_sem, Nat.reduceEqDiff, Nat.reduceAdd, Nat.reduceLeDiff, e0_0, hd]; (first | done | rfl)); (first | refine wcd_T ?_ | refine wcd_F ?_)
    | refine w_skip ?_ | refine w_exit ?_ | refine w_ret ?_
    | fail
    )
      exact ⟨by first | exact .inr rfl | exact .inr trivial | exact .inl rfl, by simp only [go_sem, Nat.reduceEqDiff, Nat.reduceAdd, Nat.reduceLeDiff, retOf, resOf, hh]; first | done | rfl⟩
    · rw [if_neg h9] at hh
      have hd : decide ((s.length : Int) ≥ 9) = true := by simp; omega
      (repeat' first
    | refine w_seq ?_ | refine w_rg ?_ | refine wo_nil ?_ | refine g_skU ?_ | refine g_skT ?_ | refine g_skF ?_
    | ((first | apply s_plain | apply s_void | apply s_guard | apply g_goT | apply g_goF); · simp only [go_sem, Nat.reduceEqDiff, Nat.reduceAdd, Nat.reduceLeDiff, e0_0, hd]; (first | done | rfl))
    | ((first | apply g_T | apply g_F | apply g_gT | apply g_gF); · intro q1_; (first | intro q2_ | have q2_ := q1_); simp only [go_sem, Nat.reduceEqDiff, Nat.reduceAdd, Nat.reduceLeDiff, e0_0, hd, q1_, q2_]; (first | done | rfl))
    | (apply w_condX; · simp only [go_sem, Nat.reduceEqDiff, Nat.reduceAdd, Nat.reduceLeDiff, e0_0, hd]; (first | done | rfl)); (first | refine wcd_T ?_ | refine wcd_F ?_)
    | refine w_skip ?_ | refine w_exit ?_ | refine w_ret ?_
    | fail
    )
      exact ⟨by first | exact .inr rfl | exact .inr trivial | exact .inl rfl, by simp only [go_sem, Nat.reduceEqDiff, Nat.reduceAdd, Nat.reduceLeDiff, retOf, resOf, hh]; first | done | rfl⟩
end

end
section
attribute [local go_sem ↓] e_mv e_pick e_bin e_eqs e_beq e_un e_cvi e_str e_s2b e_b2s e_box e_build e_bsl e_ld e_st e_nck e_mkf e_slcS e_slcL e_fa e_fld e_ia e_iaa e_ix e_ixa e_ext e_lenS e_lenL e_mnmx e_app e_appb e_bbx e_msl e_clr e_call e_callv e_icall e_slcA e_mkm e_mput e_mget e_mlen e_mdel pa_t pa_c pa_f slcSP_str hiOf_some hiOf_none loOf_some loOf_none set_eq set_ne
attribute [local go_sem] pv pv1 simple frOf_0 frOf_1 frOf_2 frOf_3 frOf_4 frOf_5 ne_eq not_false_eq_true if_true Bool.false_eq_true if_false pbin punary Option.map_some Option.bind_some pick_and pick_or opt_true Bool.true_and Bool.and_self Bool.and_true Bool.true_or Bool.false_or Bool.not_true Bool.not_false callE pcall_eq List.map_cons List.map_nil List.append_nil List.nil_append List.cons_append mapM_cons' mapM_nil' dep_eq fz_sc fz_sl fz_em fz_fn fz_fp fz_agg fz_tu fz_bx fz_ob Nat.lt_irrefl Nat.zero_lt_one Nat.lt_add_one flat clL cl Bool.or_true okc_sc okc_em okc_sl okc_ob okc_bx okc_fp okc_fn okc_agg okc_ifc cells_agg cells_sc cells_sl cells_em cells_ob cells_fn cells_bx cells_fp List.length_cons List.length_nil Nat.zero_add and_self true_and and_true new_m new_c put_m put_c nil_m nil_c nil_mm new_mm put_mm newM_m newM_c newM_mm putM_m putM_c putM_mm mkeyV_1 mkeyV_2 mapAt_eq deref List.getElem?_cons_zero List.getElem?_cons_succ List.drop_zero List.drop_succ_cons List.take_succ_cons List.take_zero Nat.le_refl false_and and_false decide_true decide_false lenP_em lenP_nil lenP_sl lenP_ob Int.ofNat_zero
def d36 : Def := (.code 2 [.tmp 4] (.seq (.rg false [⟨.some 4, .none, .mv (.c (.bool false))⟩]) (.seq (.seq (.rg false [⟨.some 6, .none, .mv (.t 0)⟩, ⟨.some 7, .none, .lenL (.t 6)⟩, ⟨.some 8, .none, .mv (.t 1)⟩, ⟨.some 9, .none, .lenL (.t 8)⟩, ⟨.some 10, .none, .bin .neq (.t 7) (.t 9)⟩]) (.cond (.t 10) (.seq (.rg false [⟨.some 4, .none, .mv (.c (.bool false))⟩]) .ret) .skip)) (.seq (.seq (.rg false [⟨.some 11, .none, .mv (.t 0)⟩, ⟨.some 12, .none, .lenL (.t 11)⟩, ⟨.some 13, .none, .mv (.c (.int .i64 0))⟩]) (.block 0 (.loop (.seq (.rg false [⟨.some 14, .none, .bin .lss (.t 13) (.t 12)⟩]) (.seq (.cond (.t 14) .skip (.exit 0)) (.seq (.block 1 (.seq (.rg false [⟨.some 15, .none, .mv (.t 13)⟩, ⟨.some 5, .none, .mv (.t 15)⟩]) (.seq (.rg true [⟨.some 16, .none, .mv (.t 0)⟩, ⟨.some 17, .none, .mv (.t 5)⟩, ⟨.some 18, .none, .ia 1 (.t 16) (.t 17)⟩, ⟨.some 19, .none, .ld .none (.t 18)⟩, ⟨.some 20, .none, .mv (.t 1)⟩, ⟨.some 21, .none, .mv (.t 5)⟩, ⟨.some 22, .none, .ia 1 (.t 20) (.t 21)⟩, ⟨.some 23, .none, .ld .none (.t 22)⟩, ⟨.some 24, .none, .bin .neq (.t 19) (.t 23)⟩]) (.cond (.t 24) (.seq (.rg false [⟨.some 4, .none, .mv (.c (.bool false))⟩]) .ret) .skip)))) (.rg false [⟨.some 25, .none, .bin .add (.t 13) (.c (.int .i64 1))⟩, ⟨.some 13, .none, .mv (.t 25)⟩]))))))) (.seq (.rg false [⟨.some 4, .none, .mv (.c (.bool true))⟩]) .ret)))))
section
variable {env : Nat → Option Def} {fr : Fr} {σ σ' σ'' : St} {K : Fr → St → Prop} {Q : X → Fr → St → Prop} {p : PV} {bs : List UInt8}
end

end
section
attribute [local go_sem ↓] e_mv e_pick e_bin e_eqs e_beq e_un e_cvi e_str e_s2b e_b2s e_box e_build e_bsl e_ld e_st e_nck e_mkf e_slcS e_slcL e_fa e_fld e_ia e_iaa e_ix e_ixa e_ext e_lenS e_lenL e_mnmx e_app e_appb e_bbx e_msl e_clr e_call e_callv e_icall e_slcA e_mkm e_mput e_mget e_mlen e_mdel pa_t pa_c pa_f slcSP_str hiOf_some hiOf_none loOf_some loOf_none set_eq set_ne
attribute [local go_sem] pv pv1 simple frOf_0 frOf_1 frOf_2 frOf_3 frOf_4 frOf_5 ne_eq not_false_eq_true if_true Bool.false_eq_true if_false pbin punary Option.map_some Option.bind_some pick_and pick_or opt_true Bool.true_and Bool.and_self Bool.and_true Bool.true_or Bool.false_or Bool.not_true Bool.not_false callE pcall_eq List.map_cons List.map_nil List.append_nil List.nil_append List.cons_append mapM_cons' mapM_nil' dep_eq fz_sc fz_sl fz_em fz_fn fz_fp fz_agg fz_tu fz_bx fz_ob Nat.lt_irrefl Nat.zero_lt_one Nat.lt_add_one flat clL cl Bool.or_true okc_sc okc_em okc_sl okc_ob okc_bx okc_fp okc_fn okc_agg okc_ifc cells_agg cells_sc cells_sl cells_em cells_ob cells_fn cells_bx cells_fp List.length_cons List.length_nil Nat.zero_add and_self true_and and_true new_m new_c put_m put_c nil_m nil_c nil_mm new_mm put_mm newM_m newM_c newM_mm putM_m putM_c putM_mm mkeyV_1 mkeyV_2 mapAt_eq deref List.getElem?_cons_zero List.getElem?_cons_succ List.drop_zero List.drop_succ_cons List.take_succ_cons List.take_zero Nat.le_refl false_and and_false decide_true decide_false lenP_em lenP_nil lenP_sl lenP_ob Int.ofNat_zero splice fillP fillE List.modify_zero_cons List.replicate_succ List.replicate_zero List.set_cons_zero List.drop_zero ba_data ba_size ba_toList ba_extract ba_append List.toList_toArray
def d261 : Def := (.code 1 [.tmp 2, .tmp 3] (.seq (.rg false [⟨.some 2, .none, .mv (.c (.string ⟨#[]⟩))⟩, ⟨.some 3, .none, .mv (.c (.int .i64 0))⟩]) (.seq (.seq (.rg false [⟨.some 6, .none, .mv (.t 0)⟩, ⟨.some 7, .none, .lenS (.t 6)⟩, ⟨.some 8, .none, .bin .gtr (.t 7) (.c (.int .i64 4096))⟩]) (.cond (.t 8) (.seq (.rg false [⟨.some 2, .none, .mv (.c (.string ⟨#[]⟩))⟩, ⟨.some 3, .none, .mv (.c (.int .i64 2))⟩]) .ret) .skip)) (.seq (.rg false [⟨.some 10, .none, .mv (.t 0)⟩, ⟨.some 11, .none, .lenS (.t 10)⟩, ⟨.some 12, .none, .call 269 .pure [.t 11]⟩, ⟨.some 9, .none, .mv (.t 12)⟩, ⟨.some 13, .none, .ext (.t 9) 0⟩, ⟨.some 14, .none, .ext (.t 9) 1⟩, ⟨.some 4, .none, .mv (.t 13)⟩, ⟨.some 5, .none, .mv (.t 14)⟩]) (.seq (.rg false [⟨.some 15, .none, .mv (.t 4)⟩, ⟨.some 16, .none, .mv (.t 0)⟩, ⟨.some 17, .none, .bin .add (.t 15) (.t 16)⟩, ⟨.some 18, .none, .mv (.t 0)⟩, ⟨.some 19, .none, .call 270 .pure [.t 18]⟩, ⟨.some 20, .none, .bin .add (.t 17) (.t 19)⟩, ⟨.some 2, .none, .mv (.t 20)⟩, ⟨.some 3, .none, .mv (.c (.int .i64 0))⟩]) .ret)))))
def d262 : Def := (.code 1 [.tmp 2, .tmp 3] (.seq (.rg false [⟨.some 2, .none, .mv (.c (.slice .none 0 0))⟩, ⟨.some 3, .none, .mv (.c (.int .i64 0))⟩]) (.seq (.rg false [⟨.some 4, .none, .mv (.c (.slice .none 0 0))⟩]) (.seq (.rg false [⟨.some 5, .none, .mv (.c (.int .i64 0))⟩]) (.seq (.block 0 (.loop (.seq (.seq (.rg false [⟨.some 10, .none, .mv (.t 5)⟩, ⟨.some 11, .none, .mv (.t 0)⟩, ⟨.some 12, .none, .lenS (.t 11)⟩, ⟨.some 13, .none, .bin .lss (.t 10) (.t 12)⟩]) (.cond (.t 13) .skip (.exit 0))) (.block 1 (.seq (.rg false [⟨.some 15, .none, .mv (.t 0)⟩, ⟨.some 16, .none, .mv (.t 5)⟩, ⟨.some 17, .none, .slcS (.t 15) (.some (.t 16)) .none⟩, ⟨.some 18, .none, .call 271 .pure [.t 17]⟩, ⟨.some 14, .none, .mv (.t 18)⟩, ⟨.some 19, .none, .ext (.t 14) 0⟩, ⟨.some 20, .none, .ext (.t 14) 1⟩, ⟨.some 21, .none, .ext (.t 14) 2⟩, ⟨.some 6, .none, .mv (.t 19)⟩, ⟨.some 7, .none, .mv (.t 20)⟩, ⟨.some 8, .none, .mv (.t 21)⟩]) (.seq (.seq (.rg false [⟨.some 22, .none, .mv (.t 8)⟩, ⟨.some 23, .none, .bin .neq (.t 22) (.c (.int .i64 0))⟩, ⟨.some 24, .none, .mv (.t 23)⟩, ⟨.some 25, .some (24, false), .mv (.t 6)⟩, ⟨.some 26, .some (24, false), .bin .gtr (.t 25) (.c (.int .i64 4096))⟩, ⟨.some 27, .none, .pick (.t 24) (.c (.bool true)) (.t 26)⟩, ⟨.some 28, .none, .mv (.t 27)⟩, ⟨.some 29, .some (28, false), .mv (.t 6)⟩, ⟨.some 30, .some (28, false), .bin .add (.t 29) (.c (.int .i64 4))⟩, ⟨.some 31, .some (28, false), .mv (.t 0)⟩, ⟨.some 32, .some (28, false), .lenS (.t 31)⟩, ⟨.some 33, .some (28, false), .mv (.t 5)⟩, ⟨.some 34, .some (28, false), .bin .sub (.t 32) (.t 33)⟩, ⟨.some 35, .some (28, false), .mv (.t 7)⟩, ⟨.some 36, .some (28, false), .bin .sub (.t 34) (.t 35)⟩, ⟨.some 37, .some (28, false), .bin .gtr (.t 30) (.t 36)⟩, ⟨.some 38, .none, .pick (.t 28) (.c (.bool true)) (.t 37)⟩]) (.cond (.t 38) (.exit 0) .skip)) (.seq (.rg false [⟨.some 39, .none, .mv (.t 0)⟩, ⟨.some 40, .none, .mv (.t 5)⟩, ⟨.some 41, .none, .mv (.t 7)⟩, ⟨.some 42, .none, .bin .add (.t 40) (.t 41)⟩, ⟨.some 43, .none, .mv (.t 5)⟩, ⟨.some 44, .none, .mv (.t 7)⟩, ⟨.some 45, .none, .bin .add (.t 43) (.t 44)⟩, ⟨.some 46, .none, .mv (.t 6)⟩, ⟨.some 47, .none, .bin .add (.t 45) (.t 46)⟩, ⟨.some 48, .none, .slcS (.t 39) (.some (.t 42)) (.some (.t 47))⟩, ⟨.some 9, .none, .mv (.t 48)⟩]) (.seq (.seq (.rg true [⟨.some 49, .none, .mv (.t 0)⟩, ⟨.some 50, .none, .mv (.t 5)⟩, ⟨.some 51, .none, .mv (.t 7)⟩, ⟨.some 52, .none, .bin .add (.t 50) (.t 51)⟩, ⟨.some 53, .none, .mv (.t 6)⟩, ⟨.some 54, .none, .bin .add (.t 52) (.t 53)⟩, ⟨.some 55, .none, .mv (.t 5)⟩, ⟨.some 56, .none, .mv (.t 7)⟩, ⟨.some 57, .none, .bin .add (.t 55) (.t 56)⟩, ⟨.some 58, .none, .mv (.t 6)⟩, ⟨.some 59, .none, .bin .add (.t 57) (.t 58)⟩, ⟨.some 60, .none, .bin .add (.t 59) (.c (.int .i64 4))⟩, ⟨.some 61, .none, .slcS (.t 49) (.some (.t 54)) (.some (.t 60))⟩, ⟨.some 62, .none, .mv (.t 9)⟩, ⟨.some 63, .none, .call 270 .strict [.t 62]⟩, ⟨.some 64, .none, .bin .neq (.t 61) (.t 63)⟩]) (.cond (.t 64) (.exit 0) .skip)) (.seq (.rg false [⟨.some 65, .none, .mv (.t 4)⟩, ⟨.some 66, .none, .mv (.t 9)⟩, ⟨.some 67, .none, .bsl 1 (.string ⟨#[]⟩) 1 [(0, .t 66)]⟩, ⟨.some 68, .none, .app 1 16 false (.t 65) (.t 67)⟩, ⟨.some 4, .none, .mv (.t 68)⟩]) (.rg false [⟨.some 69, .none, .mv (.t 5)⟩, ⟨.some 70, .none, .mv (.t 7)⟩, ⟨.some 71, .none, .mv (.t 6)⟩, ⟨.some 72, .none, .bin .add (.t 70) (.t 71)⟩, ⟨.some 73, .none, .bin .add (.t 72) (.c (.int .i64 4))⟩, ⟨.some 74, .none, .bin .add (.t 69) (.t 73)⟩, ⟨.some 5, .none, .mv (.t 74)⟩])))))))))) (.seq (.rg false [⟨.some 75, .none, .mv (.t 4)⟩, ⟨.some 76, .none, .mv (.t 5)⟩, ⟨.some 2, .none, .mv (.t 75)⟩, ⟨.some 3, .none, .mv (.t 76)⟩]) .ret))))))
def lie : List (Nat × Def) := [(261, d261), (262, d262)]
section
variable {env : Nat → Option Def} {fr : Fr} {σ σ' σ'' : St} {K : Fr → St → Prop} {Q : X → Fr → St → Prop} {p : PV} {bs : List UInt8}
theorem a261 (B : Has lib env) (C : Has lic env) (E : Has lie env) {d : List UInt8} (hd : d.length ≤ 1000000) : AV env 261 [txt d] = some (if d.length > 4096 then .tu [txt [], .sc (.int .i64 2)] else .tu [txt (recB d), .sc (.int .i64 0)]) := by
  have h1 := a269 C hd
  have h2 := a270 B (s := d) (by omega)
  have hl := encN_len d.length
  have c1 : (encN d.length).length + d.length ≤ 9223372036854775807 := by omega
  have c2 : (encN d.length ++ d).length + (chkB d).length ≤ 9223372036854775807 := by rw [List.length_append, chkB_len]; omega
  refine AV_wp (E (261, d261) (by simp [lie])) rfl ?_
  by_cases h : d.length > 4096
  · have hd : decide ((d.length : Int) > 4096) = true := by simp; omega
    rw [if_pos h]
    (repeat' first
    | refine w_seq ?_ | refine w_rg ?_ | refine wo_nil ?_ | refine g_skU ?_ | refine g_skT ?_ | refine g_skF ?_
    | ((first | apply s_plain | apply s_void | apply s_guard | apply g_goT | apply g_goF); · simp only [go_sem, Nat.reduceEqDiff, Nat.reduceAdd, Nat.reduceLeDiff, hd]; (first | done | rfl))
    | ((first | apply g_T | apply g_F | apply g_gT | apply g_gF); · intro q1_; (first | intro q2_ | have q2_ := q1_); simp only [go_sem, Nat.reduceEqDiff, Nat.reduceAdd, Nat.reduceLeDiff, hd, q1_, q2_]; (first | done | rfl))
    | (apply w_condX; · simp only [go_sem, Nat.reduceEqDiff, Nat.reduceAdd, Nat.reduceLeDiff, hd]; (first | done | rfl)); (first | refine wcd_T ?_ | refine wcd_F ?_)
    | refine w_skip ?_ | refine w_exit ?_ | refine w_ret ?_
    | fail
    )
    exact ⟨by first | exact .inr rfl | exact .inr trivial | exact .inl rfl, by simp only [go_sem, Nat.reduceEqDiff, Nat.reduceAdd, Nat.reduceLeDiff, retOf, resOf]; first | done | rfl⟩
  · have hd : decide ((d.length : Int) > 4096) = false := by simp; omega
    rw [if_neg h]
    (repeat' first
    | refine w_seq ?_ | refine w_rg ?_ | refine wo_nil ?_ | refine g_skU ?_ | refine g_skT ?_ | refine g_skF ?_
    | ((first | apply s_plain | apply s_void | apply s_guard | apply g_goT | apply g_goF); · simp only [go_sem, Nat.reduceEqDiff, Nat.reduceAdd, Nat.reduceLeDiff, hd, h1, h2, c1, c2]; (first | done | rfl))
    | ((first | apply g_T | apply g_F | apply g_gT | apply g_gF); · intro q1_; (first | intro q2_ | have q2_ := q1_); simp only [go_sem, Nat.reduceEqDiff, Nat.reduceAdd, Nat.reduceLeDiff, hd, h1, h2, c1, c2, q1_, q2_]; (first | done | rfl))
    | (apply w_condX; · simp only [go_sem, Nat.reduceEqDiff, Nat.reduceAdd, Nat.reduceLeDiff, hd, h1, h2, c1, c2]; (first | done | rfl)); (first | refine wcd_T ?_ | refine wcd_F ?_)
    | refine w_skip ?_ | refine w_exit ?_ | refine w_ret ?_
    | fail
    )
    exact ⟨by first | exact .inr rfl | exact .inr trivial | exact .inl rfl, by simp only [go_sem, Nat.reduceEqDiff, Nat.reduceAdd, Nat.reduceLeDiff, retOf, resOf, recB]; first | done | rfl⟩
theorem bad_prog {t : List UInt8} {len i : Nat} (hl : t.length = len - i) (hi : i ≤ len) (hs : len ≤ 1000000) :
    (((headN t).2.2 != 0) || decide (((headN t).1 : Int) > 4096) || decide (IntKind.i64.wrap (((headN t).1 : Int) + 4) > IntKind.i64.wrap (IntKind.i64.wrap ((len : Int) - (i : Int)) - ((headN t).2.1 : Int)))) = !goodN t := by
  have w1 : IntKind.i64.wrap ((len : Int) - (i : Int)) = ((t.length : Nat) : Int) := by rw [IntKind.wrap_i64]; omega
  rw [w1]
  by_cases h0 : (headN t).2.2 = 0
  · have he : headN t = ((headN t).1, (headN t).2.1, 0) := by rw [← h0]
    obtain ⟨_, h9, _, _⟩ := headN_ok he
    by_cases hn : (headN t).1 > 4096
    · have e1 : goodN t = false := by
        rw [Bool.eq_false_iff]
        intro h
        have := (good_ok h).2.1
        unfold numN at this
        omega
      have e2 : decide (((headN t).1 : Int) > 4096) = true := by simp; omega
      rw [e1, e2, h0]; rfl
    · have w2 : IntKind.i64.wrap (((headN t).1 : Int) + 4) = (((headN t).1 : Int) + 4) := by rw [IntKind.wrap_i64]; omega
      have w3 : IntKind.i64.wrap (((t.length : Nat) : Int) - ((headN t).2.1 : Int)) = ((t.length : Nat) : Int) - ((headN t).2.1 : Int) := by rw [IntKind.wrap_i64]; omega
      have e2 : decide (((headN t).1 : Int) > 4096) = false := by simp; omega
      have e3 : decide (numN t ≤ 4096) = true := by simp only [decide_eq_true_eq]; unfold numN; omega
      rw [w2, w3, e2, h0]
      unfold goodN
      rw [h0, e3]
      by_cases hx : useN t + numN t + 4 ≤ t.length
      · have e4 : decide (useN t + numN t + 4 ≤ t.length) = true := by simpa using hx
        have e5 : decide ((((headN t).1 : Int) + 4) > ((t.length : Nat) : Int) - ((headN t).2.1 : Int)) = false := by
          unfold useN numN at hx
          simp only [decide_eq_false_iff_not]
          omega
        rw [e4, e5]; rfl
      · have e4 : decide (useN t + numN t + 4 ≤ t.length) = false := by simpa using hx
        have e5 : decide ((((headN t).1 : Int) + 4) > ((t.length : Nat) : Int) - ((headN t).2.1 : Int)) = true := by
          unfold useN numN at hx
          simp only [decide_eq_true_eq]
          omega
        rw [e4, e5]; rfl
  · have e1 : goodN t = false := by
      unfold goodN
      simp [h0]
    have e2 : ((headN t).2.2 != 0) = true := by simpa using h0
    rw [e1, e2]; rfl
theorem a262 (B : Has lib env) (C : Has lic env) (E : Has lie env) {s : List UInt8} (hs : s.length ≤ 1000000) : AV env 262 [txt s] = some (.tu [.sl (txts (scanS s)), .sc (.int .i64 (((scanS s).flatMap recB).length : Int))]) := by
  refine AV_wp (E (262, d262) (by simp [lie])) rfl ?_
  (repeat' first
    | refine w_seq ?_ | refine w_rg ?_ | refine wo_nil ?_ | refine g_skU ?_ | refine g_skT ?_ | refine g_skF ?_
    | ((first | apply s_plain | apply s_void | apply s_guard | apply g_goT | apply g_goF); · simp only [go_sem, Nat.reduceEqDiff, Nat.reduceAdd, Nat.reduceLeDiff]; (first | done | rfl))
    | ((first | apply g_T | apply g_F | apply g_gT | apply g_gF); · intro q1_; (first | intro q2_ | have q2_ := q1_); simp only [go_sem, Nat.reduceEqDiff, Nat.reduceAdd, Nat.reduceLeDiff, q1_, q2_]; (first | done | rfl))
    | (apply w_condX; · simp only [go_sem, Nat.reduceEqDiff, Nat.reduceAdd, Nat.reduceLeDiff]; (first | done | rfl)); (first | refine wcd_T ?_ | refine wcd_F ?_)
    | refine w_skip ?_ | refine w_exit ?_ | refine w_ret ?_
    | fail
    )
  refine w_block (w_loopF (fun m fr σ => ∃ (i : Nat) (out : List (List UInt8)), m = s.length - i ∧ i ≤ s.length ∧ out.length ≤ i ∧ fr 5 = .sc (.int .i64 (i : Int)) ∧ Gat σ [68] 1 false (fr 4) (txts out) ∧ scanS s = out ++ scanS (s.drop i) ∧ i = (out.flatMap recB).length) ?_ s.length ?_)
  · rintro m fr1 σ1 ⟨i, out, rfl, hi, hol, f5, hg, hsc, hil⟩ hfr
    have f0_0 := hfr 0 rfl; try (simp only [go_sem, Nat.reduceEqDiff, Nat.reduceAdd, Nat.reduceLeDiff] at f0_0)
    have fin : ∀ {x : List (List UInt8)}, scanS s = out ++ x → x = [] → (scanS s) = out := fun h h0 => by rw [h, h0, List.append_nil]
    by_cases hlt : i < s.length
    · have hd : decide ((i : Int) < (s.length : Int)) = true := by simp; omega
      have hne : s.drop i ≠ [] := by
        intro h
        have := congrArg List.length h
        simp at this; omega
      have hdl : (s.drop i).length = s.length - i := List.length_drop
      have b1 : bound s.length (.sc (.int .i64 (i : Int))) = some i := bound_nat (by omega)
      have hdt : (s.take s.length).drop i = s.drop i := by rw [List.take_length]
      have h271 := a271 C (s := s.drop i) (by omega)
      have hse := scanS_eq (s.drop i)
      rw [if_neg hne] at hse
      (repeat' first
    | refine w_seq ?_ | refine w_rg ?_ | refine wo_nil ?_ | refine g_skU ?_ | refine g_skT ?_ | refine g_skF ?_
    | ((first | apply s_plain | apply s_void | apply s_guard | apply g_goT | apply g_goF); · simp only [go_sem, Nat.reduceEqDiff, Nat.reduceAdd, Nat.reduceLeDiff, f0_0, f5, hd]; (first | done | rfl))
    | ((first | apply g_T | apply g_F | apply g_gT | apply g_gF); · intro q1_; (first | intro q2_ | have q2_ := q1_); simp only [go_sem, Nat.reduceEqDiff, Nat.reduceAdd, Nat.reduceLeDiff, f0_0, f5, hd, q1_, q2_]; (first | done | rfl))
    | (apply w_condX; · simp only [go_sem, Nat.reduceEqDiff, Nat.reduceAdd, Nat.reduceLeDiff, f0_0, f5, hd]; (first | done | rfl)); (first | refine wcd_T ?_ | refine wcd_F ?_)
    | refine w_skip ?_ | refine w_exit ?_ | refine w_ret ?_
    | fail
    )
      refine w_block ?_
      (repeat' first
    | refine w_seq ?_ | refine w_rg ?_ | refine wo_nil ?_ | refine g_skU ?_ | refine g_skT ?_ | refine g_skF ?_
    | ((first | apply s_plain | apply s_void | apply s_guard | apply g_goT | apply g_goF); · simp only [go_sem, Nat.reduceEqDiff, Nat.reduceAdd, Nat.reduceLeDiff, f0_0, f5, b1, hdt, h271]; (first | done | rfl))
    | ((first | apply g_T | apply g_F | apply g_gT | apply g_gF); · intro q1_; (first | intro q2_ | have q2_ := q1_); simp only [go_sem, Nat.reduceEqDiff, Nat.reduceAdd, Nat.reduceLeDiff, f0_0, f5, b1, hdt, h271, q1_, q2_]; (first | done | rfl))
    | fail
    )
      cases hgd : goodN (s.drop i) with
      | false =>
        rw [hgd] at hse
        have hend := fin hsc hse
        have hbad := bad_prog hdl hi hs
        rw [hgd, Bool.not_false] at hbad
        (repeat' first
    | refine w_seq ?_ | refine w_rg ?_ | refine wo_nil ?_ | refine g_skU ?_ | refine g_skT ?_ | refine g_skF ?_
    | ((first | apply s_plain | apply s_void | apply s_guard | apply g_goT | apply g_goF); · simp only [go_sem, Nat.reduceEqDiff, Nat.reduceAdd, Nat.reduceLeDiff, f0_0, f5, hbad]; (first | done | rfl))
    | ((first | apply g_T | apply g_F | apply g_gT | apply g_gF); · intro q1_; (first | intro q2_ | have q2_ := q1_); simp only [go_sem, Nat.reduceEqDiff, Nat.reduceAdd, Nat.reduceLeDiff, f0_0, f5, hbad, q1_, q2_]; (first | done | rfl))
    | (apply w_condX; · simp only [go_sem, Nat.reduceEqDiff, Nat.reduceAdd, Nat.reduceLeDiff, f0_0, f5, hbad]; (first | done | rfl)); (first | refine wcd_T ?_ | refine wcd_F ?_)
    | refine w_skip ?_ | refine w_exit ?_ | refine w_ret ?_
    | fail
    )
        try simp only [if_true]
        try show Wp _ _ _ _ _
        have hfz := gat_fzd hg (txts_fz σ1 9 _)
        (repeat' first
    | refine w_seq ?_ | refine w_rg ?_ | refine wo_nil ?_ | refine g_skU ?_ | refine g_skT ?_ | refine g_skF ?_
    | ((first | apply s_plain | apply s_void | apply s_guard | apply g_goT | apply g_goF); · simp only [go_sem, Nat.reduceEqDiff, Nat.reduceAdd, Nat.reduceLeDiff, f5]; (first | done | rfl))
    | ((first | apply g_T | apply g_F | apply g_gT | apply g_gF); · intro q1_; (first | intro q2_ | have q2_ := q1_); simp only [go_sem, Nat.reduceEqDiff, Nat.reduceAdd, Nat.reduceLeDiff, f5, q1_, q2_]; (first | done | rfl))
    | (apply w_condX; · simp only [go_sem, Nat.reduceEqDiff, Nat.reduceAdd, Nat.reduceLeDiff, f5]; (first | done | rfl)); (first | refine wcd_T ?_ | refine wcd_F ?_)
    | refine w_skip ?_ | refine w_exit ?_ | refine w_ret ?_
    | fail
    )
        exact ⟨by first | exact .inr rfl | exact .inr trivial | exact .inl rfl, by simp only [go_sem, Nat.reduceEqDiff, Nat.reduceAdd, Nat.reduceLeDiff, retOf, resOf, hfz, hend, hil]; first | done | rfl⟩
        all_goals first | done | rfl
      | true =>
        have hbad := bad_prog hdl hi hs
        rw [hgd, Bool.not_true] at hbad
        obtain ⟨q1, q2, q3, q4, q5⟩ := good_ok hgd
        rw [q1] at hbad
        have w1 : IntKind.i64.wrap ((i : Int) + ((useN (s.drop i) : Nat) : Int)) = ((i + useN (s.drop i) : Nat) : Int) := by rw [IntKind.wrap_i64]; omega
        have w2 : IntKind.i64.wrap (((i + useN (s.drop i) : Nat) : Int) + ((numN (s.drop i) : Nat) : Int)) = ((i + useN (s.drop i) + numN (s.drop i) : Nat) : Int) := by rw [IntKind.wrap_i64]; omega
        have w3 : IntKind.i64.wrap (((i + useN (s.drop i) + numN (s.drop i) : Nat) : Int) + 4) = ((i + useN (s.drop i) + numN (s.drop i) + 4 : Nat) : Int) := by rw [IntKind.wrap_i64]; omega
        have b2 : bound s.length (.sc (.int .i64 ((i + useN (s.drop i) + numN (s.drop i) : Nat) : Int))) = some (i + useN (s.drop i) + numN (s.drop i)) := bound_nat (by omega)
        have b3 : bound (i + useN (s.drop i) + numN (s.drop i)) (.sc (.int .i64 ((i + useN (s.drop i) : Nat) : Int))) = some (i + useN (s.drop i)) := bound_nat (by omega)
        have b4 : bound s.length (.sc (.int .i64 ((i + useN (s.drop i) + numN (s.drop i) + 4 : Nat) : Int))) = some (i + useN (s.drop i) + numN (s.drop i) + 4) := bound_nat (by omega)
        have b5 : bound (i + useN (s.drop i) + numN (s.drop i) + 4) (.sc (.int .i64 ((i + useN (s.drop i) + numN (s.drop i) : Nat) : Int))) = some (i + useN (s.drop i) + numN (s.drop i)) := bound_nat (by omega)
        have hda : (s.take (i + useN (s.drop i) + numN (s.drop i))).drop (i + useN (s.drop i)) = dataN (s.drop i) := by
          unfold dataN
          rw [List.drop_drop, List.drop_take]
          congr 1
          omega
        have hch : (s.take (i + useN (s.drop i) + numN (s.drop i) + 4)).drop (i + useN (s.drop i) + numN (s.drop i)) = ((s.drop i).drop (useN (s.drop i) + numN (s.drop i))).take 4 := by
          rw [List.drop_drop, List.drop_take, Nat.add_assoc i]
          congr 1
          omega
        have h270 := a270 B (s := dataN (s.drop i)) (by rw [dataN_len hgd]; omega)
        (repeat' first
    | refine w_seq ?_ | refine w_rg ?_ | refine wo_nil ?_ | refine g_skU ?_ | refine g_skT ?_ | refine g_skF ?_
    | ((first | apply s_plain | apply s_void | apply s_guard | apply g_goT | apply g_goF); · simp only [go_sem, Nat.reduceEqDiff, Nat.reduceAdd, Nat.reduceLeDiff, f0_0, q1, hbad, f5, w1, w2, b2, b3, hda]; (first | done | rfl))
    | ((first | apply g_T | apply g_F | apply g_gT | apply g_gF); · intro q1_; (first | intro q2_ | have q2_ := q1_); simp only [go_sem, Nat.reduceEqDiff, Nat.reduceAdd, Nat.reduceLeDiff, f0_0, q1, hbad, f5, w1, w2, b2, b3, hda, q1_, q2_]; (first | done | rfl))
    | (apply w_condX; · simp only [go_sem, Nat.reduceEqDiff, Nat.reduceAdd, Nat.reduceLeDiff, f0_0, q1, hbad, f5, w1, w2, b2, b3, hda]; (first | done | rfl)); (first | refine wcd_T ?_ | refine wcd_F ?_)
    | refine w_skip ?_ | refine w_exit ?_ | refine w_ret ?_
    | fail
    )
        have hfit : (!(((s.drop i).drop (useN (s.drop i) + numN (s.drop i))).take 4 == chkB (dataN (s.drop i)))) = !fitN (s.drop i) := by
          unfold fitN
          rw [Bool.eq_iff_iff]
          simp
        cases hft : fitN (s.drop i) with
        | false =>
          rw [hgd, hft] at hse
          have hend := fin hsc hse
          rw [hft, Bool.not_false] at hfit
          (repeat' first
    | refine w_seq ?_ | refine w_rg ?_ | refine wo_nil ?_ | refine g_skU ?_ | refine g_skT ?_ | refine g_skF ?_
    | ((first | apply s_plain | apply s_void | apply s_guard | apply g_goT | apply g_goF); · simp only [go_sem, Nat.reduceEqDiff, Nat.reduceAdd, Nat.reduceLeDiff, f0_0, f5, w1, w2, w3, b4, b5, hch, h270, hfit]; (first | done | rfl))
    | ((first | apply g_T | apply g_F | apply g_gT | apply g_gF); · intro q1_; (first | intro q2_ | have q2_ := q1_); simp only [go_sem, Nat.reduceEqDiff, Nat.reduceAdd, Nat.reduceLeDiff, f0_0, f5, w1, w2, w3, b4, b5, hch, h270, hfit, q1_, q2_]; (first | done | rfl))
    | (apply w_condX; · simp only [go_sem, Nat.reduceEqDiff, Nat.reduceAdd, Nat.reduceLeDiff, f0_0, f5, w1, w2, w3, b4, b5, hch, h270, hfit]; (first | done | rfl)); (first | refine wcd_T ?_ | refine wcd_F ?_)
    | refine w_skip ?_ | refine w_exit ?_ | refine w_ret ?_
    | fail
    )
          try simp only [if_true]
          try show Wp _ _ _ _ _
          have hfz := gat_fzd hg (txts_fz σ1 9 _)
          (repeat' first
    | refine w_seq ?_ | refine w_rg ?_ | refine wo_nil ?_ | refine g_skU ?_ | refine g_skT ?_ | refine g_skF ?_
    | ((first | apply s_plain | apply s_void | apply s_guard | apply g_goT | apply g_goF); · simp only [go_sem, Nat.reduceEqDiff, Nat.reduceAdd, Nat.reduceLeDiff, f5]; (first | done | rfl))
    | ((first | apply g_T | apply g_F | apply g_gT | apply g_gF); · intro q1_; (first | intro q2_ | have q2_ := q1_); simp only [go_sem, Nat.reduceEqDiff, Nat.reduceAdd, Nat.reduceLeDiff, f5, q1_, q2_]; (first | done | rfl))
    | (apply w_condX; · simp only [go_sem, Nat.reduceEqDiff, Nat.reduceAdd, Nat.reduceLeDiff, f5]; (first | done | rfl)); (first | refine wcd_T ?_ | refine wcd_F ?_)
    | refine w_skip ?_ | refine w_exit ?_ | refine w_ret ?_
    | fail
    )
          exact ⟨by first | exact .inr rfl | exact .inr trivial | exact .inl rfl, by simp only [go_sem, Nat.reduceEqDiff, Nat.reduceAdd, Nat.reduceLeDiff, retOf, resOf, hfz, hend, hil]; first | done | rfl⟩
          all_goals first | done | rfl
        | true =>
          rw [hgd, hft] at hse
          rw [hft, Bool.not_true] at hfit
          have w4 : IntKind.i64.wrap (((useN (s.drop i) : Nat) : Int) + ((numN (s.drop i) : Nat) : Int)) = ((useN (s.drop i) + numN (s.drop i) : Nat) : Int) := by rw [IntKind.wrap_i64]; omega
          have w5 : IntKind.i64.wrap (((useN (s.drop i) + numN (s.drop i) : Nat) : Int) + 4) = ((useN (s.drop i) + numN (s.drop i) + 4 : Nat) : Int) := by rw [IntKind.wrap_i64]; omega
          have w6 : IntKind.i64.wrap ((i : Int) + ((useN (s.drop i) + numN (s.drop i) + 4 : Nat) : Int)) = ((i + (useN (s.drop i) + numN (s.drop i) + 4) : Nat) : Int) := by rw [IntKind.wrap_i64]; omega
          (repeat' first
    | refine w_seq ?_ | refine w_rg ?_ | refine wo_nil ?_ | refine g_skU ?_ | refine g_skT ?_ | refine g_skF ?_
    | ((first | apply s_plain | apply s_void | apply s_guard | apply g_goT | apply g_goF); · simp only [go_sem, Nat.reduceEqDiff, Nat.reduceAdd, Nat.reduceLeDiff, f0_0, f5, w1, w2, w3, b4, b5, hch, h270, hfit]; (first | done | rfl))
    | ((first | apply g_T | apply g_F | apply g_gT | apply g_gF); · intro q1_; (first | intro q2_ | have q2_ := q1_); simp only [go_sem, Nat.reduceEqDiff, Nat.reduceAdd, Nat.reduceLeDiff, f0_0, f5, w1, w2, w3, b4, b5, hch, h270, hfit, q1_, q2_]; (first | done | rfl))
    | (apply w_condX; · simp only [go_sem, Nat.reduceEqDiff, Nat.reduceAdd, Nat.reduceLeDiff, f0_0, f5, w1, w2, w3, b4, b5, hch, h270, hfit]; (first | done | rfl)); (first | refine wcd_T ?_ | refine wcd_F ?_)
    | refine w_skip ?_ | refine w_exit ?_ | refine w_ret ?_
    | fail
    )
          refine s_gat (os := [68]) (w := false) (xs := txts out) (e := txt (dataN (s.drop i))) (by simp only [go_sem, Nat.reduceEqDiff, Nat.reduceAdd, Nat.reduceLeDiff]; exact hg.new _) (by decide) (by simp only [go_sem, Nat.reduceEqDiff, Nat.reduceAdd, Nat.reduceLeDiff, srcOf, elemsOf]) rfl rfl (by rw [txts_len]; omega) ?_
          intro p2 σ2 hg2
          have hg3 : Gat σ2 [68] 1 false p2 (txts (out ++ [dataN (s.drop i)])) := by
            rw [txts, List.map_append, List.map_singleton]; exact hg2
          (repeat' first
    | refine w_seq ?_ | refine w_rg ?_ | refine wo_nil ?_ | refine g_skU ?_ | refine g_skT ?_ | refine g_skF ?_
    | ((first | apply s_plain | apply s_void | apply s_guard | apply g_goT | apply g_goF); · simp only [go_sem, Nat.reduceEqDiff, Nat.reduceAdd, Nat.reduceLeDiff, f5, q1, w4, w5, w6]; (first | done | rfl))
    | ((first | apply g_T | apply g_F | apply g_gT | apply g_gF); · intro q1_; (first | intro q2_ | have q2_ := q1_); simp only [go_sem, Nat.reduceEqDiff, Nat.reduceAdd, Nat.reduceLeDiff, f5, q1, w4, w5, w6, q1_, q2_]; (first | done | rfl))
    | (apply w_condX; · simp only [go_sem, Nat.reduceEqDiff, Nat.reduceAdd, Nat.reduceLeDiff, f5, q1, w4, w5, w6]; (first | done | rfl)); (first | refine wcd_T ?_ | refine wcd_F ?_)
    | refine w_skip ?_ | refine w_exit ?_ | refine w_ret ?_
    | fail
    )
          try simp only [if_true]
          try show Wp _ _ _ _ _
          refine ⟨s.length - (i + (useN (s.drop i) + numN (s.drop i) + 4)), by omega, i + (useN (s.drop i) + numN (s.drop i) + 4), out ++ [dataN (s.drop i)], rfl, by omega, by rw [List.length_append]; simp; omega, by simp only [go_sem, Nat.reduceEqDiff, Nat.reduceAdd, Nat.reduceLeDiff, q1, w4, w5, w6], by simp only [go_sem, Nat.reduceEqDiff, Nat.reduceAdd, Nat.reduceLeDiff]; exact hg3, ?_, ?_⟩
          · rw [hsc, hse]
            unfold restN
            rw [List.drop_drop, List.append_assoc]
            rfl
          · rw [List.flatMap_append, List.length_append, ← hil, List.flatMap_singleton, recB_len hgd]
    · have hil2 : i = s.length := by omega
      have hd : decide ((i : Int) < (s.length : Int)) = false := by simp; omega
      have hend := fin hsc (by rw [hil2, List.drop_length]; exact scanS_nil)
      (repeat' first
    | refine w_seq ?_ | refine w_rg ?_ | refine wo_nil ?_ | refine g_skU ?_ | refine g_skT ?_ | refine g_skF ?_
    | ((first | apply s_plain | apply s_void | apply s_guard | apply g_goT | apply g_goF); · simp only [go_sem, Nat.reduceEqDiff, Nat.reduceAdd, Nat.reduceLeDiff, f0_0, f5, hd]; (first | done | rfl))
    | ((first | apply g_T | apply g_F | apply g_gT | apply g_gF); · intro q1_; (first | intro q2_ | have q2_ := q1_); simp only [go_sem, Nat.reduceEqDiff, Nat.reduceAdd, Nat.reduceLeDiff, f0_0, f5, hd, q1_, q2_]; (first | done | rfl))
    | (apply w_condX; · simp only [go_sem, Nat.reduceEqDiff, Nat.reduceAdd, Nat.reduceLeDiff, f0_0, f5, hd]; (first | done | rfl)); (first | refine wcd_T ?_ | refine wcd_F ?_)
    | refine w_skip ?_ | refine w_exit ?_ | refine w_ret ?_
    | fail
    )
      try simp only [if_true]
      try show Wp _ _ _ _ _
      have hfz := gat_fzd hg (txts_fz σ1 9 _)
      (repeat' first
    | refine w_seq ?_ | refine w_rg ?_ | refine wo_nil ?_ | refine g_skU ?_ | refine g_skT ?_ | refine g_skF ?_
    | ((first | apply s_plain | apply s_void | apply s_guard | apply g_goT | apply g_goF); · simp only [go_sem, Nat.reduceEqDiff, Nat.reduceAdd, Nat.reduceLeDiff, f5]; (first | done | rfl))
    | ((first | apply g_T | apply g_F | apply g_gT | apply g_gF); · intro q1_; (first | intro q2_ | have q2_ := q1_); simp only [go_sem, Nat.reduceEqDiff, Nat.reduceAdd, Nat.reduceLeDiff, f5, q1_, q2_]; (first | done | rfl))
    | (apply w_condX; · simp only [go_sem, Nat.reduceEqDiff, Nat.reduceAdd, Nat.reduceLeDiff, f5]; (first | done | rfl)); (first | refine wcd_T ?_ | refine wcd_F ?_)
    | refine w_skip ?_ | refine w_exit ?_ | refine w_ret ?_
    | fail
    )
      exact ⟨by first | exact .inr rfl | exact .inr trivial | exact .inl rfl, by simp only [go_sem, Nat.reduceEqDiff, Nat.reduceAdd, Nat.reduceLeDiff, retOf, resOf, hfz, hend, hil]; first | done | rfl⟩
      all_goals first | done | rfl
  · exact ⟨0, [], by omega, by omega, by simp, by simp only [go_sem, Nat.reduceEqDiff, Nat.reduceAdd, Nat.reduceLeDiff]; first | done | rfl, by simp only [go_sem, Nat.reduceEqDiff, Nat.reduceAdd, Nat.reduceLeDiff]; exact .em, by simp, rfl⟩
end

def lii : List (Nat × Def) := [(36, d36)]
section
variable {env : Nat → Option Def} {fr : Fr} {σ σ' σ'' : St} {K : Fr → St → Prop} {Q : X → Fr → St → Prop} {p : PV} {bs : List UInt8}
theorem a36s (D : Has lii env) {a b : List (List UInt8)} (hn : a.length ≤ 9223372036854775807) : AV env 36 [.sl (txts a), .sl (txts b)] = some (.sc (.bool (decide (a = b)))) := by
  refine AV_wp (D (36, d36) (by simp [lii])) rfl ?_
  have hla := txts_len a
  have hlb := txts_len b
  (repeat' first
    | refine w_seq ?_ | refine w_rg ?_ | refine wo_nil ?_ | refine g_skU ?_ | refine g_skT ?_ | refine g_skF ?_
    | ((first | apply s_plain | apply s_void | apply s_guard | apply g_goT | apply g_goF); · simp only [go_sem, Nat.reduceEqDiff, Nat.reduceAdd, Nat.reduceLeDiff, hla, hlb]; (first | done | rfl))
    | ((first | apply g_T | apply g_F | apply g_gT | apply g_gF); · intro q1_; (first | intro q2_ | have q2_ := q1_); simp only [go_sem, Nat.reduceEqDiff, Nat.reduceAdd, Nat.reduceLeDiff, hla, hlb, q1_, q2_]; (first | done | rfl))
    | fail
    )
  by_cases hl : a.length = b.length
  · have hc : ((a.length : Int) != (b.length : Int)) = false := by rw [hl]; simp
    (repeat' first
    | refine w_seq ?_ | refine w_rg ?_ | refine wo_nil ?_ | refine g_skU ?_ | refine g_skT ?_ | refine g_skF ?_
    | ((first | apply s_plain | apply s_void | apply s_guard | apply g_goT | apply g_goF); · simp only [go_sem, Nat.reduceEqDiff, Nat.reduceAdd, Nat.reduceLeDiff, hc]; (first | done | rfl))
    | ((first | apply g_T | apply g_F | apply g_gT | apply g_gF); · intro q1_; (first | intro q2_ | have q2_ := q1_); simp only [go_sem, Nat.reduceEqDiff, Nat.reduceAdd, Nat.reduceLeDiff, hc, q1_, q2_]; (first | done | rfl))
    | (apply w_condX; · simp only [go_sem, Nat.reduceEqDiff, Nat.reduceAdd, Nat.reduceLeDiff, hc]; (first | done | rfl)); (first | refine wcd_T ?_ | refine wcd_F ?_)
    | refine w_skip ?_ | refine w_exit ?_ | refine w_ret ?_
    | fail
    )
    (repeat' first
    | refine w_seq ?_ | refine w_rg ?_ | refine wo_nil ?_ | refine g_skU ?_ | refine g_skT ?_ | refine g_skF ?_
    | ((first | apply s_plain | apply s_void | apply s_guard | apply g_goT | apply g_goF); · simp only [go_sem, Nat.reduceEqDiff, Nat.reduceAdd, Nat.reduceLeDiff, hla]; (first | done | rfl))
    | ((first | apply g_T | apply g_F | apply g_gT | apply g_gF); · intro q1_; (first | intro q2_ | have q2_ := q1_); simp only [go_sem, Nat.reduceEqDiff, Nat.reduceAdd, Nat.reduceLeDiff, hla, q1_, q2_]; (first | done | rfl))
    | fail
    )
    refine w_block (w_rangeF a.length hn (fun i fr σ => ∀ j, j < i → a[j]? = b[j]?) ⟨by decide, rfl, rfl⟩ (fun _ _ _ _ h => ⟨h, h, h⟩) (fun j hj => by omega) (by simp only [go_sem, Nat.reduceEqDiff, Nat.reduceAdd, Nat.reduceLeDiff]; first | done | rfl) (by simp only [go_sem, Nat.reduceEqDiff, Nat.reduceAdd, Nat.reduceLeDiff, hla]; first | done | rfl) ?_ ?_)
    · rintro i fr1 σ1 hi h3 hti hfr
      have f0_0 := hfr 0 rfl; have f0_1 := hfr 1 rfl; have f0_12 := hfr 12 rfl; try (simp only [go_sem, Nat.reduceEqDiff, Nat.reduceAdd, Nat.reduceLeDiff] at f0_0); try (simp only [go_sem, Nat.reduceEqDiff, Nat.reduceAdd, Nat.reduceLeDiff] at f0_1); try (simp only [go_sem, Nat.reduceEqDiff, Nat.reduceAdd, Nat.reduceLeDiff] at f0_12)
      have hi2 : i < b.length := by omega
      have qa := List.getElem?_eq_getElem hi
      have qb := List.getElem?_eq_getElem hi2
      have hx := txts_at qa
      have hy := txts_at qb
      have e1 : (0 : Int) ≤ (i : Int) ∧ (i : Int) < (a.length : Int) := by omega
      have e2 : (0 : Int) ≤ (i : Int) ∧ (i : Int) < (b.length : Int) := by omega
      refine w_block ?_
      (repeat' first
    | refine w_seq ?_ | refine w_rg ?_ | refine wo_nil ?_ | refine g_skU ?_ | refine g_skT ?_ | refine g_skF ?_
    | ((first | apply s_plain | apply s_void | apply s_guard | apply g_goT | apply g_goF); · simp only [go_sem, Nat.reduceEqDiff, Nat.reduceAdd, Nat.reduceLeDiff, f0_0, f0_1, f0_12, hti, e1, e2, hla, hlb, Int.toNat_natCast, hx, hy]; (first | done | rfl))
    | ((first | apply g_T | apply g_F | apply g_gT | apply g_gF); · intro q1_; (first | intro q2_ | have q2_ := q1_); simp only [go_sem, Nat.reduceEqDiff, Nat.reduceAdd, Nat.reduceLeDiff, f0_0, f0_1, f0_12, hti, e1, e2, hla, hlb, Int.toNat_natCast, hx, hy, q1_, q2_]; (first | done | rfl))
    | fail
    )
      by_cases he : a[i] = b[i]
      · have hb : (!(a[i] == b[i])) = false := by simp [he]
        (repeat' first
    | refine w_seq ?_ | refine w_rg ?_ | refine wo_nil ?_ | refine g_skU ?_ | refine g_skT ?_ | refine g_skF ?_
    | ((first | apply s_plain | apply s_void | apply s_guard | apply g_goT | apply g_goF); · simp only [go_sem, Nat.reduceEqDiff, Nat.reduceAdd, Nat.reduceLeDiff, hb]; (first | done | rfl))
    | ((first | apply g_T | apply g_F | apply g_gT | apply g_gF); · intro q1_; (first | intro q2_ | have q2_ := q1_); simp only [go_sem, Nat.reduceEqDiff, Nat.reduceAdd, Nat.reduceLeDiff, hb, q1_, q2_]; (first | done | rfl))
    | (apply w_condX; · simp only [go_sem, Nat.reduceEqDiff, Nat.reduceAdd, Nat.reduceLeDiff, hb]; (first | done | rfl)); (first | refine wcd_T ?_ | refine wcd_F ?_)
    | refine w_skip ?_ | refine w_exit ?_ | refine w_ret ?_
    | fail
    )
        intro j hj
        by_cases hji : j = i
        · rw [hji, qa, qb, he]
        · exact h3 j (by omega)
      · have hb : (!(a[i] == b[i])) = true := by simp [he]
        have hne : a ≠ b := fun h => he (by subst h; rfl)
        (repeat' first
    | refine w_seq ?_ | refine w_rg ?_ | refine wo_nil ?_ | refine g_skU ?_ | refine g_skT ?_ | refine g_skF ?_
    | ((first | apply s_plain | apply s_void | apply s_guard | apply g_goT | apply g_goF); · simp only [go_sem, Nat.reduceEqDiff, Nat.reduceAdd, Nat.reduceLeDiff, hb]; (first | done | rfl))
    | ((first | apply g_T | apply g_F | apply g_gT | apply g_gF); · intro q1_; (first | intro q2_ | have q2_ := q1_); simp only [go_sem, Nat.reduceEqDiff, Nat.reduceAdd, Nat.reduceLeDiff, hb, q1_, q2_]; (first | done | rfl))
    | (apply w_condX; · simp only [go_sem, Nat.reduceEqDiff, Nat.reduceAdd, Nat.reduceLeDiff, hb]; (first | done | rfl)); (first | refine wcd_T ?_ | refine wcd_F ?_)
    | refine w_skip ?_ | refine w_exit ?_ | refine w_ret ?_
    | fail
    )
        exact ⟨by first | exact .inr rfl | exact .inr trivial | exact .inl rfl, by simp only [go_sem, Nat.reduceEqDiff, Nat.reduceAdd, Nat.reduceLeDiff, retOf, resOf, decide_eq_false hne]; first | done | rfl⟩
    · rintro fr1 σ1 h3 hfr
      try simp only [if_true]
      have heq : a = b := List.ext_getElem? fun i => by
        by_cases hi : i < a.length
        · exact h3 i hi
        · rw [List.getElem?_eq_none (by omega), List.getElem?_eq_none (by omega)]
      (repeat' first
    | refine w_seq ?_ | refine w_rg ?_ | refine wo_nil ?_ | refine g_skU ?_ | refine g_skT ?_ | refine g_skF ?_
    | ((first | apply s_plain | apply s_void | apply s_guard | apply g_goT | apply g_goF); · simp only [go_sem, Nat.reduceEqDiff, Nat.reduceAdd, Nat.reduceLeDiff]; (first | done | rfl))
    | ((first | apply g_T | apply g_F | apply g_gT | apply g_gF); · intro q1_; (first | intro q2_ | have q2_ := q1_); simp only [go_sem, Nat.reduceEqDiff, Nat.reduceAdd, Nat.reduceLeDiff, q1_, q2_]; (first | done | rfl))
    | (apply w_condX; · simp only [go_sem, Nat.reduceEqDiff, Nat.reduceAdd, Nat.reduceLeDiff]; (first | done | rfl)); (first | refine wcd_T ?_ | refine wcd_F ?_)
    | refine w_skip ?_ | refine w_exit ?_ | refine w_ret ?_
    | fail
    )
      exact ⟨by first | exact .inr rfl | exact .inr trivial | exact .inl rfl, by simp only [go_sem, Nat.reduceEqDiff, Nat.reduceAdd, Nat.reduceLeDiff, retOf, resOf, decide_eq_true heq]; first | done | rfl⟩
  · have hc : ((a.length : Int) != (b.length : Int)) = true := by simp; omega
    have hne : a ≠ b := fun h => hl (by rw [h])
    (repeat' first
    | refine w_seq ?_ | refine w_rg ?_ | refine wo_nil ?_ | refine g_skU ?_ | refine g_skT ?_ | refine g_skF ?_
    | ((first | apply s_plain | apply s_void | apply s_guard | apply g_goT | apply g_goF); · simp only [go_sem, Nat.reduceEqDiff, Nat.reduceAdd, Nat.reduceLeDiff, hc]; (first | done | rfl))
    | ((first | apply g_T | apply g_F | apply g_gT | apply g_gF); · intro q1_; (first | intro q2_ | have q2_ := q1_); simp only [go_sem, Nat.reduceEqDiff, Nat.reduceAdd, Nat.reduceLeDiff, hc, q1_, q2_]; (first | done | rfl))
    | (apply w_condX; · simp only [go_sem, Nat.reduceEqDiff, Nat.reduceAdd, Nat.reduceLeDiff, hc]; (first | done | rfl)); (first | refine wcd_T ?_ | refine wcd_F ?_)
    | refine w_skip ?_ | refine w_exit ?_ | refine w_ret ?_
    | fail
    )
    exact ⟨by first | exact .inr rfl | exact .inr trivial | exact .inl rfl, by simp only [go_sem, Nat.reduceEqDiff, Nat.reduceAdd, Nat.reduceLeDiff, retOf, resOf, decide_eq_false hne]; first | done | rfl⟩
theorem cut_take (l : List UInt8) (n : Nat) : l.take (min l.length n) = l.take n := by
  by_cases h : l.length ≤ n
  · rw [Nat.min_eq_left h, List.take_length, List.take_of_length_le h]
  · rw [Nat.min_eq_right (by omega)]
end

end
section
section
variable {P : Program}
def fieldsOf (P : Program) (t : TypeId) : List (Nat × TypeId) := match P.underlying t with
  | some (.struct fs) => fs.toList.map fun f => (f.offset, f.type)
  | _ => []
end

end
end Go.Proofs.YtemoboghbdcjkaaDoorPv
