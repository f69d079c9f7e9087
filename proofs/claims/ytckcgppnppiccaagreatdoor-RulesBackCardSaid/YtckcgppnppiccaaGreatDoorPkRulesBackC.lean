/-
Own texts of the proof, merged: part 3.
-/
import Derived.Test.YtckcgppnppiccaaGreatDoorPkRulesBackB
import Derived.Test.YtckcgppnppiccaaGreatDoorPvL
import Derived.HandedShaped
namespace Go.Proofs.YtckcgppnppiccaaGreatDoorPv
open Go
set_option linter.unusedSimpArgs false
set_option linter.unusedVariables false
set_option maxHeartbeats 4000000
set_option maxRecDepth 8000
attribute [local go_sem ↓] e_mv e_pick e_bin e_eqs e_beq e_un e_cvi e_str e_s2b e_b2s e_box e_build e_bsl e_ld e_st e_nck e_mkf e_slcS e_slcL e_fa e_fld e_ia e_iaa e_ix e_ixa e_ext e_lenS e_lenL e_mnmx e_app e_appb e_bbx e_msl e_clr e_call e_callv e_slcA e_mkm e_mput e_mget e_mlen e_mdel pa_t pa_c pa_f slcSP_str hiOf_some hiOf_none loOf_some loOf_none set_eq set_ne
attribute [local go_sem] pv pv1 simple frOf_0 frOf_1 frOf_2 frOf_3 frOf_4 frOf_5 ne_eq not_false_eq_true if_true Bool.false_eq_true if_false pbin punary Option.map_some Option.bind_some pick_and pick_or opt_true Bool.true_and Bool.and_self Bool.and_true Bool.true_or Bool.false_or Bool.not_true Bool.not_false callE pcall_eq List.map_cons List.map_nil List.append_nil List.nil_append List.cons_append mapM_cons' mapM_nil' dep_eq fz_sc fz_sl fz_em fz_fn fz_fp fz_agg fz_tu fz_bx fz_ob Nat.lt_irrefl Nat.zero_lt_one Nat.lt_add_one flat clL cl Bool.or_true okc_sc okc_em okc_sl okc_ob okc_bx okc_fp okc_fn okc_agg okc_ifc cells_agg cells_sc cells_sl cells_em cells_ob cells_fn cells_bx cells_fp List.length_cons List.length_nil Nat.zero_add and_self true_and and_true new_m new_c put_m put_c nil_m nil_c nil_mm new_mm put_mm newM_m newM_c newM_mm putM_m putM_c putM_mm mkeyV_1 mkeyV_2 mapAt_eq deref List.getElem?_cons_zero List.getElem?_cons_succ List.drop_zero List.drop_succ_cons List.take_succ_cons List.take_zero Nat.le_refl false_and and_false decide_true decide_false lenP_em lenP_nil lenP_sl lenP_ob Int.ofNat_zero
def d193 : Def := (.code 1 [.tmp 2, .tmp 3] (.seq (.rg false [⟨.some 1, .none, .box (.t 0)⟩, ⟨.some 2, .none, .mv (.c (.slice .none 0 0))⟩, ⟨.some 3, .none, .mv (.c (.int .i64 0))⟩]) (.seq (.seq (.rg false [⟨.some 9, .none, .ld (.some 8) (.t 1)⟩, ⟨.some 10, .none, .call 105 .pure [.t 9]⟩, ⟨.some 11, .none, .un .not (.t 10)⟩]) (.cond (.t 11) (.seq (.rg false [⟨.some 2, .none, .mv (.c (.slice .none 0 0))⟩, ⟨.some 3, .none, .mv (.c (.int .i64 1))⟩]) .ret) .skip)) (.seq (.rg false [⟨.some 13, .none, .fa 7 (.t 1)⟩, ⟨.some 14, .none, .ld .none (.t 13)⟩, ⟨.some 15, .none, .call 202 .pure [.t 14]⟩, ⟨.some 12, .none, .mv (.t 15)⟩, ⟨.some 16, .none, .ext (.t 12) 0⟩, ⟨.some 17, .none, .ext (.t 12) 1⟩, ⟨.some 4, .none, .mv (.t 16)⟩, ⟨.some 5, .none, .mv (.t 17)⟩]) (.seq (.rg true [⟨.some 18, .none, .fa 0 (.t 1)⟩, ⟨.some 19, .none, .ld .none (.t 18)⟩, ⟨.some 20, .none, .fa 1 (.t 1)⟩, ⟨.some 21, .none, .ld .none (.t 20)⟩, ⟨.some 22, .none, .call 115 .strict []⟩, ⟨.some 23, .none, .fa 2 (.t 1)⟩, ⟨.some 24, .none, .ld .none (.t 23)⟩, ⟨.some 25, .none, .ixa 2 6 (.some 2) (.t 22) (.t 24)⟩, ⟨.some 26, .none, .fld 0 .none (.t 25)⟩, ⟨.some 27, .none, .bsl 1 (.string ⟨#[]⟩) 3 [(0, .t 19), (1, .t 21), (2, .t 26)]⟩, ⟨.some 6, .none, .mv (.t 27)⟩]) (.seq (.seq (.rg false [⟨.some 28, .none, .fa 3 (.t 1)⟩, ⟨.some 29, .none, .ld .none (.t 28)⟩, ⟨.some 30, .none, .fa 4 (.t 1)⟩, ⟨.some 31, .none, .ld .none (.t 30)⟩, ⟨.some 32, .none, .fa 5 (.t 1)⟩, ⟨.some 33, .none, .ld .none (.t 32)⟩, ⟨.some 34, .none, .fa 6 (.t 1)⟩, ⟨.some 35, .none, .ld .none (.t 34)⟩, ⟨.some 36, .none, .bsl 1 (.int .i64 0) 4 [(0, .t 29), (1, .t 31), (2, .t 33), (3, .t 35)]⟩, ⟨.some 37, .none, .lenL (.t 36)⟩, ⟨.some 38, .none, .mv (.c (.int .i64 0))⟩]) (.block 0 (.loop (.seq (.rg false [⟨.some 39, .none, .bin .lss (.t 38) (.t 37)⟩]) (.seq (.cond (.t 39) .skip (.exit 0)) (.seq (.block 1 (.seq (.rg false [⟨.some 40, .none, .ia 1 (.t 36) (.t 38)⟩, ⟨.some 41, .none, .ld .none (.t 40)⟩, ⟨.some 8, .none, .mv (.t 41)⟩]) (.rg false [⟨.some 42, .none, .mv (.t 6)⟩, ⟨.some 43, .none, .mv (.t 8)⟩, ⟨.some 44, .none, .call 203 .pure [.t 43]⟩, ⟨.some 45, .none, .bsl 1 (.string ⟨#[]⟩) 1 [(0, .t 44)]⟩, ⟨.some 46, .none, .app 1 16 false (.t 42) (.t 45)⟩, ⟨.some 6, .none, .mv (.t 46)⟩]))) (.rg false [⟨.some 47, .none, .bin .add (.t 38) (.c (.int .i64 1))⟩, ⟨.some 38, .none, .mv (.t 47)⟩]))))))) (.seq (.rg false [⟨.some 48, .none, .mv (.t 6)⟩, ⟨.some 49, .none, .mv (.t 4)⟩, ⟨.some 50, .none, .bsl 1 (.string ⟨#[]⟩) 1 [(0, .t 49)]⟩, ⟨.some 51, .none, .app 1 16 false (.t 48) (.t 50)⟩, ⟨.some 2, .none, .mv (.t 51)⟩, ⟨.some 3, .none, .mv (.c (.int .i64 0))⟩]) .ret)))))))
def d205 : Def := (.code 1 [.tmp 2] (.seq (.rg false [⟨.some 2, .none, .mv (.c (.int .i64 0))⟩]) (.seq (.rg false [⟨.some 3, .none, .mv (.c (.int .i64 0))⟩, ⟨.some 4, .none, .mv (.c (.int .i64 1))⟩]) (.seq (.seq (.rg false [⟨.some 6, .none, .mv (.t 0)⟩, ⟨.some 7, .none, .lenS (.t 6)⟩, ⟨.some 8, .none, .mnmx false [.t 7, .c (.int .i64 15)]⟩, ⟨.some 9, .none, .mv (.c (.int .i64 0))⟩]) (.block 0 (.loop (.seq (.rg false [⟨.some 10, .none, .bin .lss (.t 9) (.t 8)⟩]) (.seq (.cond (.t 10) .skip (.exit 0)) (.seq (.block 1 (.seq (.rg false [⟨.some 11, .none, .mv (.t 9)⟩, ⟨.some 5, .none, .mv (.t 11)⟩]) (.seq (.seq (.rg false [⟨.some 12, .none, .mv (.t 0)⟩, ⟨.some 13, .none, .mv (.t 5)⟩, ⟨.some 14, .none, .ix (.t 12) (.t 13)⟩, ⟨.some 15, .none, .bin .eql (.t 14) (.c (.int .u8 45))⟩]) (.cond (.t 15) (.seq (.rg false [⟨.some 4, .none, .mv (.c (.int .i64 (-1)))⟩]) (.exit 1)) .skip)) (.rg false [⟨.some 16, .none, .mv (.t 3)⟩, ⟨.some 17, .none, .bin .mul (.c (.int .i64 10)) (.t 16)⟩, ⟨.some 18, .none, .mv (.t 0)⟩, ⟨.some 19, .none, .mv (.t 5)⟩, ⟨.some 20, .none, .ix (.t 18) (.t 19)⟩, ⟨.some 21, .none, .bin .and (.t 20) (.c (.int .u8 15))⟩, ⟨.some 22, .none, .cvi .i64 (.t 21)⟩, ⟨.some 23, .none, .bin .add (.t 17) (.t 22)⟩, ⟨.some 3, .none, .mv (.t 23)⟩])))) (.rg false [⟨.some 24, .none, .bin .add (.t 9) (.c (.int .i64 1))⟩, ⟨.some 9, .none, .mv (.t 24)⟩]))))))) (.seq (.rg false [⟨.some 25, .none, .mv (.t 4)⟩, ⟨.some 26, .none, .mv (.t 3)⟩, ⟨.some 27, .none, .bin .mul (.t 25) (.t 26)⟩, ⟨.some 2, .none, .mv (.t 27)⟩]) .ret)))))
def d210 : Def := (.code 1 [.tmp 2] (.seq (.rg false [⟨.some 2, .none, .mv (.c (.string ⟨#[]⟩))⟩]) (.seq (.rg false [⟨.some 3, .none, .bsl 1 (.string ⟨#[]⟩) 6 [(0, .c (.string ⟨#[]⟩)), (1, .c (.string ⟨#[62]⟩)), (2, .c (.string ⟨#[62, 61]⟩)), (3, .c (.string ⟨#[60]⟩)), (4, .c (.string ⟨#[60, 61]⟩)), (5, .c (.string ⟨#[61, 61]⟩))]⟩, ⟨.some 4, .none, .mv (.t 0)⟩, ⟨.some 5, .none, .ia 1 (.t 3) (.t 4)⟩, ⟨.some 6, .none, .ld .none (.t 5)⟩, ⟨.some 2, .none, .mv (.t 6)⟩]) .ret)))
def d197 : Def := (.code 1 [.tmp 2] (.seq (.rg false [⟨.some 1, .none, .box (.t 0)⟩, ⟨.some 2, .none, .mv (.c (.slice .none 0 0))⟩]) (.seq (.rg true [⟨.some 3, .none, .fa 0 (.t 1)⟩, ⟨.some 4, .none, .ld .none (.t 3)⟩, ⟨.some 5, .none, .fa 1 (.t 1)⟩, ⟨.some 6, .none, .ld .none (.t 5)⟩, ⟨.some 7, .none, .fa 2 (.t 1)⟩, ⟨.some 8, .none, .ld .none (.t 7)⟩, ⟨.some 9, .none, .call 210 .strict [.t 8]⟩, ⟨.some 10, .none, .fa 3 (.t 1)⟩, ⟨.some 11, .none, .ld .none (.t 10)⟩, ⟨.some 12, .none, .call 203 .strict [.t 11]⟩, ⟨.some 13, .none, .fa 4 (.t 1)⟩, ⟨.some 14, .none, .ld .none (.t 13)⟩, ⟨.some 15, .none, .call 203 .strict [.t 14]⟩, ⟨.some 16, .none, .fa 5 (.t 1)⟩, ⟨.some 17, .none, .ld .none (.t 16)⟩, ⟨.some 18, .none, .call 203 .strict [.t 17]⟩, ⟨.some 19, .none, .fa 6 (.t 1)⟩, ⟨.some 20, .none, .ld .none (.t 19)⟩, ⟨.some 21, .none, .call 203 .strict [.t 20]⟩, ⟨.some 22, .none, .fa 7 (.t 1)⟩, ⟨.some 23, .none, .ld .none (.t 22)⟩, ⟨.some 24, .none, .call 211 .strict [.t 23]⟩, ⟨.some 25, .none, .bsl 1 (.string ⟨#[]⟩) 8 [(0, .t 4), (1, .t 6), (2, .t 9), (3, .t 12), (4, .t 15), (5, .t 18), (6, .t 21), (7, .t 24)]⟩, ⟨.some 2, .none, .mv (.t 25)⟩]) .ret)))
def d194 : Def := (.code 1 [.tmp 2] (.seq (.rg false [⟨.some 2, .none, .mv (.c (.slice .none 0 0))⟩]) (.seq (.rg false [⟨.some 3, .none, .mv (.c (.slice .none 0 0))⟩]) (.seq (.seq (.rg false [⟨.some 6, .none, .mv (.t 0)⟩, ⟨.some 7, .none, .mv (.t 0)⟩, ⟨.some 8, .none, .lenL (.t 7)⟩, ⟨.some 9, .none, .mnmx false [.t 8, .c (.int .i64 10)]⟩, ⟨.some 10, .none, .slcL 1 (.t 6) .none (.some (.t 9))⟩, ⟨.some 11, .none, .lenL (.t 10)⟩, ⟨.some 12, .none, .mv (.c (.int .i64 0))⟩]) (.block 0 (.loop (.seq (.rg false [⟨.some 13, .none, .bin .lss (.t 12) (.t 11)⟩]) (.seq (.cond (.t 13) .skip (.exit 0)) (.seq (.block 1 (.seq (.rg false [⟨.some 14, .none, .ia 1 (.t 10) (.t 12)⟩, ⟨.some 15, .none, .ld .none (.t 14)⟩, ⟨.some 5, .none, .mv (.t 15)⟩]) (.rg false [⟨.some 16, .none, .mv (.t 3)⟩, ⟨.some 17, .none, .mv (.t 5)⟩, ⟨.some 18, .none, .mv (.t 5)⟩, ⟨.some 19, .none, .lenS (.t 18)⟩, ⟨.some 20, .none, .mnmx false [.t 19, .c (.int .i64 700)]⟩, ⟨.some 21, .none, .slcS (.t 17) .none (.some (.t 20))⟩, ⟨.some 22, .none, .bsl 1 (.string ⟨#[]⟩) 1 [(0, .t 21)]⟩, ⟨.some 23, .none, .app 1 16 false (.t 16) (.t 22)⟩, ⟨.some 3, .none, .mv (.t 23)⟩]))) (.rg false [⟨.some 24, .none, .bin .add (.t 12) (.c (.int .i64 1))⟩, ⟨.some 12, .none, .mv (.t 24)⟩]))))))) (.seq (.rg false [⟨.some 25, .none, .mv (.t 3)⟩, ⟨.some 2, .none, .mv (.t 25)⟩]) .ret)))))
def d35 : Def := (.code 2 [.tmp 4] (.seq (.rg false [⟨.some 4, .none, .mv (.c (.bool false))⟩]) (.seq (.seq (.rg false [⟨.some 6, .none, .mv (.t 0)⟩, ⟨.some 7, .none, .lenL (.t 6)⟩, ⟨.some 8, .none, .mv (.t 1)⟩, ⟨.some 9, .none, .lenL (.t 8)⟩, ⟨.some 10, .none, .bin .neq (.t 7) (.t 9)⟩]) (.cond (.t 10) (.seq (.rg false [⟨.some 4, .none, .mv (.c (.bool false))⟩]) .ret) .skip)) (.seq (.seq (.rg false [⟨.some 11, .none, .mv (.t 0)⟩, ⟨.some 12, .none, .lenL (.t 11)⟩, ⟨.some 13, .none, .mv (.c (.int .i64 0))⟩]) (.block 0 (.loop (.seq (.rg false [⟨.some 14, .none, .bin .lss (.t 13) (.t 12)⟩]) (.seq (.cond (.t 14) .skip (.exit 0)) (.seq (.block 1 (.seq (.rg false [⟨.some 15, .none, .mv (.t 13)⟩, ⟨.some 5, .none, .mv (.t 15)⟩]) (.seq (.rg true [⟨.some 16, .none, .mv (.t 0)⟩, ⟨.some 17, .none, .mv (.t 5)⟩, ⟨.some 18, .none, .ia 1 (.t 16) (.t 17)⟩, ⟨.some 19, .none, .ld .none (.t 18)⟩, ⟨.some 20, .none, .mv (.t 1)⟩, ⟨.some 21, .none, .mv (.t 5)⟩, ⟨.some 22, .none, .ia 1 (.t 20) (.t 21)⟩, ⟨.some 23, .none, .ld .none (.t 22)⟩, ⟨.some 24, .none, .bin .neq (.t 19) (.t 23)⟩]) (.cond (.t 24) (.seq (.rg false [⟨.some 4, .none, .mv (.c (.bool false))⟩]) .ret) .skip)))) (.rg false [⟨.some 25, .none, .bin .add (.t 13) (.c (.int .i64 1))⟩, ⟨.some 13, .none, .mv (.t 25)⟩]))))))) (.seq (.rg false [⟨.some 4, .none, .mv (.c (.bool true))⟩]) .ret)))))
def d36 : Def := (.code 2 [.tmp 4] (.seq (.rg false [⟨.some 4, .none, .mv (.c (.bool false))⟩]) (.seq (.seq (.rg false [⟨.some 6, .none, .mv (.t 0)⟩, ⟨.some 7, .none, .lenL (.t 6)⟩, ⟨.some 8, .none, .mv (.t 1)⟩, ⟨.some 9, .none, .lenL (.t 8)⟩, ⟨.some 10, .none, .bin .neq (.t 7) (.t 9)⟩]) (.cond (.t 10) (.seq (.rg false [⟨.some 4, .none, .mv (.c (.bool false))⟩]) .ret) .skip)) (.seq (.seq (.rg false [⟨.some 11, .none, .mv (.t 0)⟩, ⟨.some 12, .none, .lenL (.t 11)⟩, ⟨.some 13, .none, .mv (.c (.int .i64 0))⟩]) (.block 0 (.loop (.seq (.rg false [⟨.some 14, .none, .bin .lss (.t 13) (.t 12)⟩]) (.seq (.cond (.t 14) .skip (.exit 0)) (.seq (.block 1 (.seq (.rg false [⟨.some 15, .none, .mv (.t 13)⟩, ⟨.some 5, .none, .mv (.t 15)⟩]) (.seq (.rg true [⟨.some 16, .none, .mv (.t 0)⟩, ⟨.some 17, .none, .mv (.t 5)⟩, ⟨.some 18, .none, .ia 1 (.t 16) (.t 17)⟩, ⟨.some 19, .none, .ld .none (.t 18)⟩, ⟨.some 20, .none, .mv (.t 1)⟩, ⟨.some 21, .none, .mv (.t 5)⟩, ⟨.some 22, .none, .ia 1 (.t 20) (.t 21)⟩, ⟨.some 23, .none, .ld .none (.t 22)⟩, ⟨.some 24, .none, .bin .neq (.t 19) (.t 23)⟩]) (.cond (.t 24) (.seq (.rg false [⟨.some 4, .none, .mv (.c (.bool false))⟩]) .ret) .skip)))) (.rg false [⟨.some 25, .none, .bin .add (.t 13) (.c (.int .i64 1))⟩, ⟨.some 13, .none, .mv (.t 25)⟩]))))))) (.seq (.rg false [⟨.some 4, .none, .mv (.c (.bool true))⟩]) .ret)))))
def lha : List (Nat × Def) := [(203, .prim (pureF itoaF))]
def lhb : List (Nat × Def) := [(193, d193)]
def lhc : List (Nat × Def) := [(210, d210), (197, d197), (194, d194), (205, d205)]
def lhd : List (Nat × Def) := [(36, d36)]
def lhe : List (Nat × Def) := [(35, d35)]
section
variable {env : Nat → Option Def} {fr : Fr} {σ : St} {K : Fr → St → Prop} {Q : X → Fr → St → Prop}
theorem a203 (A : Has lha env) {n : Int} (h1 : -9223372036854775808 ≤ n) (h2 : n ≤ 9223372036854775807) : AV env 203 [.sc (.int .i64 n)] = some (.sc (.string (itoaS n))) := by
  have h := A (203, .prim (pureF itoaF)) (by simp [lha])
  refine AV_of (σ := St.nil) (r := .sc (.string (itoaS n))) ?_ rfl
  rw [EV_prim h]
  simp only [pureF, mapM_cons', mapM_nil', scOf, Option.bind_some, itoaF, if_pos (And.intro h1 h2), Option.map_some]
  rfl
def wayF (how : Int) : PV := if how = 1 then .fn 123 [] [] else if how = 2 then .fn 124 [] [] else if how = 3 then .fn 125 [] [] else if how = 4 then .fn 126 [] [] else .fn 127 [] []
theorem way_at {how : Int} (h : 1 ≤ how ∧ how ≤ 5) (E : Ev) (s : Nat) (fr : Fr) (σ : St) {a b : Nat} (ha : pa fr (.t a) = .agg waysL) (hb : pa fr (.t b) = .sc (.int .i64 how)) :
    evO E s fr σ (.ixa 2 6 (some 2) (.t a) (.t b)) = some (.agg [.sc (.string (signT how)), wayF how], σ) := by
  rw [e_ixa, ha, hb]
  obtain rfl | rfl | rfl | rfl | rfl : how = 1 ∨ how = 2 ∨ how = 3 ∨ how = 4 ∨ how = 5 := by omega
  all_goals rfl
theorem strs_snoc (l : List ByteArray) (s : ByteArray) : strs l ++ [.sc (.string s)] = strs (l ++ [s]) := by simp [strs]
def nums (r : Rule) : List Int := [r.limit, r.for_, r.keep, r.tries]
def headW (r : Rule) : List ByteArray := [r.name, r.metric, signT r.how]
theorem nums_in {r : Rule} (p : RightR r) {n : Int} (h : n ∈ nums r) : -1099511627776 ≤ n ∧ n ≤ 1099511627776 := by
  simp only [nums, List.mem_cons, List.not_mem_nil, or_false] at h
  rcases h with rfl | rfl | rfl | rfl
  · exact p.limit
  · exact p.for_
  · exact p.keep
  · exact p.tries
theorem strs_fzd (σ : St) (d : Nat) (l : List ByteArray) : (strs l).mapM (fz σ (d + 1)) = some (strs l) := by
  induction l with
  | nil => rfl
  | cons m L ih =>
    show List.mapM (fz σ (d + 1)) (.sc (.string m) :: strs L) = _
    rw [mapM_cons', ih]
    rfl
theorem a193 (H : Has la env) (G : Has lc env) (F : Has lf env) (I : Has lg env) (P : Has lp env) (U : Has lu env) (A : Has lha env) (W : Has lhb env) {r : Rule} (hr : r.Fits) :
    AV env 193 [rule r] = some (.tu [.sl (strs (if rightR r = true then wordsR r else [])), .sc (.int .i64 (if rightR r = true then 0 else 1))]) := by
  have h105 := a105 H G F I hr
  have h202 := a202 (la_la0 H) G P U hr.l hr.s
  have h115 := a115 I
  refine AV_wp (W (193, d193) (by simp [lhb])) rfl ?_
  unfold rule at h105 ⊢
  cases hb : rightR r with
  | false =>
    rw [hb] at h105
    (repeat' first
    | refine w_seq ?_ | refine w_rg ?_ | refine wo_nil ?_ | refine g_skU ?_ | refine g_skT ?_ | refine g_skF ?_
    | ((first | apply s_plain | apply s_void | apply s_guard | apply g_goT | apply g_goF); · simp only [go_sem, Nat.reduceEqDiff, Nat.reduceAdd, Nat.reduceLeDiff, h105]; (first | done | rfl))
    | ((first | apply g_T | apply g_F | apply g_gT | apply g_gF); · intro q1_; (first | intro q2_ | have q2_ := q1_); simp only [go_sem, Nat.reduceEqDiff, Nat.reduceAdd, Nat.reduceLeDiff, h105, q1_, q2_]; (first | done | rfl))
    | (apply w_condX; · simp only [go_sem, Nat.reduceEqDiff, Nat.reduceAdd, Nat.reduceLeDiff, h105]; (first | done | rfl)); (first | refine wcd_T ?_ | refine wcd_F ?_)
    | refine w_skip ?_ | refine w_exit ?_ | refine w_ret ?_
    | fail
    )
    exact ⟨by first | exact .inr rfl | exact .inr trivial | exact .inl rfl, by simp only [go_sem, Nat.reduceEqDiff, Nat.reduceAdd, Nat.reduceLeDiff, retOf, resOf]; first | done | rfl⟩
  | true =>
    rw [hb] at h105
    have p := right_parts hb
    rw [p.labels] at h202
    simp only [if_true] at h202
    (repeat' first
    | refine w_seq ?_ | refine w_rg ?_ | refine wo_nil ?_ | refine g_skU ?_ | refine g_skT ?_ | refine g_skF ?_
    | ((first | apply s_plain | apply s_void | apply s_guard | apply g_goT | apply g_goF); · simp only [go_sem, Nat.reduceEqDiff, Nat.reduceAdd, Nat.reduceLeDiff, h105]; (first | done | rfl))
    | ((first | apply g_T | apply g_F | apply g_gT | apply g_gF); · intro q1_; (first | intro q2_ | have q2_ := q1_); simp only [go_sem, Nat.reduceEqDiff, Nat.reduceAdd, Nat.reduceLeDiff, h105, q1_, q2_]; (first | done | rfl))
    | (apply w_condX; · simp only [go_sem, Nat.reduceEqDiff, Nat.reduceAdd, Nat.reduceLeDiff, h105]; (first | done | rfl)); (first | refine wcd_T ?_ | refine wcd_F ?_)
    | refine w_skip ?_ | refine w_exit ?_ | refine w_ret ?_
    | fail
    )
    (repeat' first
    | refine w_seq ?_ | refine w_rg ?_ | refine wo_nil ?_ | refine g_skU ?_ | refine g_skT ?_ | refine g_skF ?_
    | ((first | apply s_plain | apply s_void | apply s_guard | apply g_goT | apply g_goF); · simp only [go_sem, Nat.reduceEqDiff, Nat.reduceAdd, Nat.reduceLeDiff, h202]; (first | done | rfl))
    | ((first | apply g_T | apply g_F | apply g_gT | apply g_gF); · intro q1_; (first | intro q2_ | have q2_ := q1_); simp only [go_sem, Nat.reduceEqDiff, Nat.reduceAdd, Nat.reduceLeDiff, h202, q1_, q2_]; (first | done | rfl))
    | fail
    )
    (repeat' first
    | refine w_seq ?_ | refine w_rg ?_ | refine wo_nil ?_ | refine g_skU ?_ | refine g_skT ?_ | refine g_skF ?_
    | ((first | apply s_plain | apply s_void | apply s_guard | apply g_goT | apply g_goF); · simp only [go_sem, Nat.reduceEqDiff, Nat.reduceAdd, Nat.reduceLeDiff, h115]; (first | done | rfl))
    | ((first | apply g_T | apply g_F | apply g_gT | apply g_gF); · intro q1_; (first | intro q2_ | have q2_ := q1_); simp only [go_sem, Nat.reduceEqDiff, Nat.reduceAdd, Nat.reduceLeDiff, h115, q1_, q2_]; (first | done | rfl))
    | fail
    )
    refine s_plain (way_at p.how _ _ _ _ (by simp only [go_sem, Nat.reduceEqDiff, Nat.reduceAdd, Nat.reduceLeDiff]) (by simp only [go_sem, Nat.reduceEqDiff, Nat.reduceAdd, Nat.reduceLeDiff])) ?_
    (repeat' first
    | refine w_seq ?_ | refine w_rg ?_ | refine wo_nil ?_ | refine g_skU ?_ | refine g_skT ?_ | refine g_skF ?_
    | ((first | apply s_plain | apply s_void | apply s_guard | apply g_goT | apply g_goF); · simp only [go_sem, Nat.reduceEqDiff, Nat.reduceAdd, Nat.reduceLeDiff, List.replicate_succ, List.replicate_zero, List.set_cons_zero, List.set_cons_succ]; (first | done | rfl))
    | ((first | apply g_T | apply g_F | apply g_gT | apply g_gF); · intro q1_; (first | intro q2_ | have q2_ := q1_); simp only [go_sem, Nat.reduceEqDiff, Nat.reduceAdd, Nat.reduceLeDiff, List.replicate_succ, List.replicate_zero, List.set_cons_zero, List.set_cons_succ, q1_, q2_]; (first | done | rfl))
    | fail
    )
    refine w_block (w_range 4 (by omega) (fun i fr σ => fr 4 = .sc (.string (textS r.labels)) ∧ (∃ g, fr 36 = .ob 36 g 1 0 4 ∧ σ.m 36 g = some ⟨1, (nums r).map fun n => .sc (.int .i64 n), true, true⟩ ∧ g < σ.c 36) ∧ Gat σ [27, 46] 1 false (fr 6) (strs (headW r ++ ((nums r).take i).map itoaS))) (by decide) ?_ ?_ ?_ _ _ ?_ ?_ ?_)
    · rintro i fr σ v ⟨h0, ⟨g, h1, h2⟩, h3⟩
      refine ⟨⟨?_, ⟨g, ?_, h2⟩, ?_⟩, ⟨?_, ⟨g, ?_, h2⟩, ?_⟩, ⟨?_, ⟨g, ?_, h2⟩, ?_⟩⟩ <;> simp only [go_sem, Nat.reduceEqDiff, Nat.reduceAdd, Nat.reduceLeDiff, h0, h1, h3]
    · rintro i fr σ hi ⟨h4, ⟨g, h36, hm, hgc⟩, hg⟩ hti htn
      have hil : i < (nums r).length := hi
      have hx : ((nums r).map fun n => PV.sc (.int .i64 n))[i]? = some (.sc (.int .i64 (nums r)[i])) := by rw [List.getElem?_map, List.getElem?_eq_getElem hil]; rfl
      have hr := nums_in p (List.getElem_mem hil)
      have h203 := a203 A (n := (nums r)[i]) (by omega) (by omega)
      have e1 : (0 : Int) ≤ (i : Int) ∧ (i : Int) < 4 := by omega
      have e1' : (0 : Int) ≤ (i : Int) ∧ (i : Int) < ((4 : Nat) : Int) := by omega
      have e2 : strs (headW r ++ ((nums r).take (i + 1)).map itoaS) = strs (headW r ++ ((nums r).take i).map itoaS) ++ [.sc (.string (itoaS (nums r)[i]))] := by
        rw [strs_snoc, List.take_succ_eq_append_getElem hil, List.map_append, List.append_assoc]; rfl
      have hlen : (strs (headW r ++ ((nums r).take i).map itoaS)).length ≤ 7 := by
        rw [strs_len, List.length_append, List.length_map, List.length_take]
        show 3 + min i 4 ≤ 7
        omega
      refine w_block ?_
      (repeat' first
    | refine w_seq ?_ | refine w_rg ?_ | refine wo_nil ?_ | refine g_skU ?_ | refine g_skT ?_ | refine g_skF ?_
    | ((first | apply s_plain | apply s_void | apply s_guard | apply g_goT | apply g_goF); · simp only [go_sem, Nat.reduceEqDiff, Nat.reduceAdd, Nat.reduceLeDiff, h36, hti, e1, e1', hm, Int.toNat_natCast, hx, h203, Nat.zero_add]; (first | done | rfl))
    | ((first | apply g_T | apply g_F | apply g_gT | apply g_gF); · intro q1_; (first | intro q2_ | have q2_ := q1_); simp only [go_sem, Nat.reduceEqDiff, Nat.reduceAdd, Nat.reduceLeDiff, h36, hti, e1, e1', hm, Int.toNat_natCast, hx, h203, Nat.zero_add, q1_, q2_]; (first | done | rfl))
    | fail
    )
      (repeat' first
    | refine w_seq ?_ | refine w_rg ?_ | refine wo_nil ?_ | refine g_skU ?_ | refine g_skT ?_ | refine g_skF ?_
    | ((first | apply s_plain | apply s_void | apply s_guard | apply g_goT | apply g_goF); · simp only [go_sem, Nat.reduceEqDiff, Nat.reduceAdd, Nat.reduceLeDiff, List.replicate_succ, List.replicate_zero, List.set_cons_zero]; (first | done | rfl))
    | ((first | apply g_T | apply g_F | apply g_gT | apply g_gF); · intro q1_; (first | intro q2_ | have q2_ := q1_); simp only [go_sem, Nat.reduceEqDiff, Nat.reduceAdd, Nat.reduceLeDiff, List.replicate_succ, List.replicate_zero, List.set_cons_zero, q1_, q2_]; (first | done | rfl))
    | fail
    )
      refine s_gatL (os := [27, 46]) (w := false) (xs := strs (headW r ++ ((nums r).take i).map itoaS)) (ys := [.sc (.string (itoaS (nums r)[i]))]) (by simp only [go_sem, Nat.reduceEqDiff, Nat.reduceAdd, Nat.reduceLeDiff]; exact hg.new _) (by simp only [go_sem, Nat.reduceEqDiff, Nat.reduceAdd, Nat.reduceLeDiff, srcOf, elemsOf, List.drop_zero, List.replicate_succ, List.replicate_zero, List.set_cons_zero]) rfl (by simp only [List.length_cons, List.length_nil]; omega) ?_
      intro p σ' hg2 hk
      simp only [Bool.false_and] at hg2
      rw [← e2] at hg2
      (repeat' first
    | refine w_seq ?_ | refine w_rg ?_ | refine wo_nil ?_ | refine g_skU ?_ | refine g_skT ?_ | refine g_skF ?_
    | ((first | apply s_plain | apply s_void | apply s_guard | apply g_goT | apply g_goF); · simp only [go_sem, Nat.reduceEqDiff, Nat.reduceAdd, Nat.reduceLeDiff]; (first | done | rfl))
    | ((first | apply g_T | apply g_F | apply g_gT | apply g_gF); · intro q1_; (first | intro q2_ | have q2_ := q1_); simp only [go_sem, Nat.reduceEqDiff, Nat.reduceAdd, Nat.reduceLeDiff, q1_, q2_]; (first | done | rfl))
    | fail
    )
      refine ⟨⟨?_, ⟨g, ?_, ?_, ?_⟩, ?_⟩, ?_, ?_⟩
      · simp only [go_sem, Nat.reduceEqDiff, Nat.reduceAdd, Nat.reduceLeDiff, h4]
      · simp only [go_sem, Nat.reduceEqDiff, Nat.reduceAdd, Nat.reduceLeDiff, h36]
      · rw [hk.2 36 g (by decide) (by simp only [new_c]; split <;> omega), new_m, if_neg (fun h => absurd h.1 (by decide))]; exact hm
      · exact Nat.lt_of_lt_of_le (by simp only [new_c]; split <;> omega : g < _) (hk.1 36)
      · simp only [go_sem, Nat.reduceEqDiff, Nat.reduceAdd, Nat.reduceLeDiff]; exact hg2.mono (by decide)
      · simp only [go_sem, Nat.reduceEqDiff, Nat.reduceAdd, Nat.reduceLeDiff, hti]
      · simp only [go_sem, Nat.reduceEqDiff, Nat.reduceAdd, Nat.reduceLeDiff, htn]
    · rintro fr σ ⟨h4, ⟨g, h36, hm, hgc⟩, hg⟩
      try simp only [if_true]
      (repeat' first
    | refine w_seq ?_ | refine w_rg ?_ | refine wo_nil ?_ | refine g_skU ?_ | refine g_skT ?_ | refine g_skF ?_
    | ((first | apply s_plain | apply s_void | apply s_guard | apply g_goT | apply g_goF); · simp only [go_sem, Nat.reduceEqDiff, Nat.reduceAdd, Nat.reduceLeDiff, h4, List.replicate_succ, List.replicate_zero, List.set_cons_zero]; (first | done | rfl))
    | ((first | apply g_T | apply g_F | apply g_gT | apply g_gF); · intro q1_; (first | intro q2_ | have q2_ := q1_); simp only [go_sem, Nat.reduceEqDiff, Nat.reduceAdd, Nat.reduceLeDiff, h4, List.replicate_succ, List.replicate_zero, List.set_cons_zero, q1_, q2_]; (first | done | rfl))
    | fail
    )
      refine s_gatL (os := [27, 46]) (w := false) (xs := strs (headW r ++ ((nums r).take 4).map itoaS)) (ys := [.sc (.string (textS r.labels))]) (by simp only [go_sem, Nat.reduceEqDiff, Nat.reduceAdd, Nat.reduceLeDiff]; exact hg.new _) (by simp only [go_sem, Nat.reduceEqDiff, Nat.reduceAdd, Nat.reduceLeDiff, srcOf, elemsOf, List.drop_zero, List.replicate_succ, List.replicate_zero, List.set_cons_zero]) rfl (by rw [strs_len]; show (3 + 4 + 1) * 16 ≤ _; omega) ?_
      intro q σ' hg2 _
      rw [strs_snoc] at hg2
      have hfz := gat_fzd hg2 (strs_fzd σ' 9 _)
      (repeat' first
    | refine w_seq ?_ | refine w_rg ?_ | refine wo_nil ?_ | refine g_skU ?_ | refine g_skT ?_ | refine g_skF ?_
    | ((first | apply s_plain | apply s_void | apply s_guard | apply g_goT | apply g_goF); · simp only [go_sem, Nat.reduceEqDiff, Nat.reduceAdd, Nat.reduceLeDiff]; (first | done | rfl))
    | ((first | apply g_T | apply g_F | apply g_gT | apply g_gF); · intro q1_; (first | intro q2_ | have q2_ := q1_); simp only [go_sem, Nat.reduceEqDiff, Nat.reduceAdd, Nat.reduceLeDiff, q1_, q2_]; (first | done | rfl))
    | (apply w_condX; · simp only [go_sem, Nat.reduceEqDiff, Nat.reduceAdd, Nat.reduceLeDiff]; (first | done | rfl)); (first | refine wcd_T ?_ | refine wcd_F ?_)
    | refine w_skip ?_ | refine w_exit ?_ | refine w_ret ?_
    | fail
    )
      refine ⟨.inr rfl, ?_⟩
      simp only [go_sem, Nat.reduceEqDiff, Nat.reduceAdd, Nat.reduceLeDiff, retOf, resOf, hfz]
      rfl
    · refine ⟨?_, ⟨0, ?_, ?_, ?_⟩, ?_⟩
      · simp only [go_sem, Nat.reduceEqDiff, Nat.reduceAdd, Nat.reduceLeDiff]
      · simp only [go_sem, Nat.reduceEqDiff, Nat.reduceAdd, Nat.reduceLeDiff]
      · simp only [go_sem, Nat.reduceEqDiff, Nat.reduceAdd, Nat.reduceLeDiff]; rfl
      · simp only [go_sem, Nat.reduceEqDiff, Nat.reduceAdd, Nat.reduceLeDiff]
      · simp only [go_sem, Nat.reduceEqDiff, Nat.reduceAdd, Nat.reduceLeDiff]; exact .inr ⟨27, _, true, by decide, rfl, by simp only [go_sem, Nat.reduceEqDiff, Nat.reduceAdd, Nat.reduceLeDiff]; rfl, (by simp only [go_sem, Nat.reduceEqDiff, Nat.reduceAdd, Nat.reduceLeDiff]), by simp [strs, headW], fun _ => rfl⟩
    · simp only [go_sem, Nat.reduceEqDiff, Nat.reduceAdd, Nat.reduceLeDiff]
    · simp only [go_sem, Nat.reduceEqDiff, Nat.reduceAdd, Nat.reduceLeDiff]
end

section
variable {env : Nat → Option Def} {fr : Fr} {σ σ' σ'' : St} {K : Fr → St → Prop} {Q : X → Fr → St → Prop} {p : PV} {bs : List UInt8}
theorem ba_inj {a b : ByteArray} (h : a.toList = b.toList) : a = b := by
  rw [ByteArray.toList_eq, ByteArray.toList_eq] at h
  exact ByteArray.ext (Array.toList_inj.1 h)
theorem ba_beq (a b : ByteArray) : (a.toList == b.toList) = decide (a = b) := by
  rw [Bool.eq_iff_iff, beq_iff_eq, decide_eq_true_iff]
  exact ⟨ba_inj, fun h => by rw [h]⟩
theorem a36 (D : Has lhd env) {a b : List ByteArray} (hn : a.length ≤ 9223372036854775807) : AV env 36 [.sl (strs a), .sl (strs b)] = some (.sc (.bool (decide (a = b)))) := by
  refine AV_wp (D (36, d36) (by simp [lhd])) rfl ?_
  have hla := strs_len a
  have hlb := strs_len b
  (repeat' first
    | refine w_seq ?_ | refine w_rg ?_ | refine wo_nil ?_ | refine g_skU ?_ | refine g_skT ?_ | refine g_skF ?_
    | ((first | apply s_plain | apply s_void | apply s_guard | apply g_goT | apply g_goF); · simp only [go_sem, Nat.reduceEqDiff, Nat.reduceAdd, Nat.reduceLeDiff, hla, hlb]; (first | done | rfl))
    | ((first | apply g_T | apply g_F | apply g_gT | apply g_gF); · intro q1_; (first | intro q2_ | have q2_ := q1_); simp only [go_sem, Nat.reduceEqDiff, Nat.reduceAdd, Nat.reduceLeDiff, hla, hlb, q1_, q2_]; (first | done | rfl))
    | fail
    )
  by_cases hl : a.length = b.length
  · have hc : ((a.length : Int) != (b.length : Int)) = false := by rw [hl]; simp
    (repeat' first
    | refine w_seq ?_ | refine w_rg ?_ | refine wo_nil ?_ | refine g_skU ?_ | refine g_skT ?_ | refine g_skF ?_
    | ((first | apply s_plain | apply s_void | apply s_guard | apply g_goT | apply g_goF); · simp only [go_sem, Nat.reduceEqDiff, Nat.reduceAdd, Nat.reduceLeDiff, hc]; (first | done | rfl))
    | ((first | apply g_T | apply g_F | apply g_gT | apply g_gF); · intro q1_; (first | intro q2_ | have q2_ := q1_); simp only [go_sem, Nat.reduceEqDiff, Nat.reduceAdd, Nat.reduceLeDiff, hc, q1_, q2_]; (first | done | rfl))
    | (apply w_condX; · simp only [go_sem, Nat.reduceEqDiff, Nat.reduceAdd, Nat.reduceLeDiff, hc]; (first | done | rfl)); (first | refine wcd_T ?_ | refine wcd_F ?_)
    | refine w_skip ?_ | refine w_exit ?_ | refine w_ret ?_
    | fail
    )
    (repeat' first
    | refine w_seq ?_ | refine w_rg ?_ | refine wo_nil ?_ | refine g_skU ?_ | refine g_skT ?_ | refine g_skF ?_
    | ((first | apply s_plain | apply s_void | apply s_guard | apply g_goT | apply g_goF); · simp only [go_sem, Nat.reduceEqDiff, Nat.reduceAdd, Nat.reduceLeDiff, hla]; (first | done | rfl))
    | ((first | apply g_T | apply g_F | apply g_gT | apply g_gF); · intro q1_; (first | intro q2_ | have q2_ := q1_); simp only [go_sem, Nat.reduceEqDiff, Nat.reduceAdd, Nat.reduceLeDiff, hla, q1_, q2_]; (first | done | rfl))
    | fail
    )
    refine w_block (w_rangeF a.length hn (fun i fr σ => ∀ j, j < i → a[j]? = b[j]?) ⟨by decide, rfl, rfl⟩ (fun _ _ _ _ h => ⟨h, h, h⟩) (fun j hj => by omega) (by simp only [go_sem, Nat.reduceEqDiff, Nat.reduceAdd, Nat.reduceLeDiff]; first | done | rfl) (by simp only [go_sem, Nat.reduceEqDiff, Nat.reduceAdd, Nat.reduceLeDiff, hla]; first | done | rfl) ?_ ?_)
    · rintro i fr1 σ1 hi h3 hti hfr
      have f0_0 := hfr 0 rfl; have f0_1 := hfr 1 rfl; have f0_12 := hfr 12 rfl; try (simp only [go_sem, Nat.reduceEqDiff, Nat.reduceAdd, Nat.reduceLeDiff] at f0_0); try (simp only [go_sem, Nat.reduceEqDiff, Nat.reduceAdd, Nat.reduceLeDiff] at f0_1); try (simp only [go_sem, Nat.reduceEqDiff, Nat.reduceAdd, Nat.reduceLeDiff] at f0_12)
      have hi2 : i < b.length := by omega
      have qa := List.getElem?_eq_getElem hi
      have qb := List.getElem?_eq_getElem hi2
      have hx := strs_at qa
      have hy := strs_at qb
      have e1 : (0 : Int) ≤ (i : Int) ∧ (i : Int) < (a.length : Int) := by omega
      have e2 : (0 : Int) ≤ (i : Int) ∧ (i : Int) < (b.length : Int) := by omega
      refine w_block ?_
      (repeat' first
    | refine w_seq ?_ | refine w_rg ?_ | refine wo_nil ?_ | refine g_skU ?_ | refine g_skT ?_ | refine g_skF ?_
    | ((first | apply s_plain | apply s_void | apply s_guard | apply g_goT | apply g_goF); · simp only [go_sem, Nat.reduceEqDiff, Nat.reduceAdd, Nat.reduceLeDiff, f0_0, f0_1, f0_12, hti, e1, e2, hla, hlb, Int.toNat_natCast, hx, hy, ba_beq]; (first | done | rfl))
    | ((first | apply g_T | apply g_F | apply g_gT | apply g_gF); · intro q1_; (first | intro q2_ | have q2_ := q1_); simp only [go_sem, Nat.reduceEqDiff, Nat.reduceAdd, Nat.reduceLeDiff, f0_0, f0_1, f0_12, hti, e1, e2, hla, hlb, Int.toNat_natCast, hx, hy, ba_beq, q1_, q2_]; (first | done | rfl))
    | fail
    )
      by_cases he : a[i] = b[i]
      · have hb : (!(decide (a[i] = b[i]))) = false := by simp [he]
        (repeat' first
    | refine w_seq ?_ | refine w_rg ?_ | refine wo_nil ?_ | refine g_skU ?_ | refine g_skT ?_ | refine g_skF ?_
    | ((first | apply s_plain | apply s_void | apply s_guard | apply g_goT | apply g_goF); · simp only [go_sem, Nat.reduceEqDiff, Nat.reduceAdd, Nat.reduceLeDiff, hb]; (first | done | rfl))
    | ((first | apply g_T | apply g_F | apply g_gT | apply g_gF); · intro q1_; (first | intro q2_ | have q2_ := q1_); simp only [go_sem, Nat.reduceEqDiff, Nat.reduceAdd, Nat.reduceLeDiff, hb, q1_, q2_]; (first | done | rfl))
    | (apply w_condX; · simp only [go_sem, Nat.reduceEqDiff, Nat.reduceAdd, Nat.reduceLeDiff, hb]; (first | done | rfl)); (first | refine wcd_T ?_ | refine wcd_F ?_)
    | refine w_skip ?_ | refine w_exit ?_ | refine w_ret ?_
    | fail
    )
        intro j hj
        by_cases hji : j = i
        · rw [hji, qa, qb, he]
        · exact h3 j (by omega)
      · have hb : (!(decide (a[i] = b[i]))) = true := by simp [he]
        have hne : a ≠ b := fun h => he (by subst h; rfl)
        (repeat' first
    | refine w_seq ?_ | refine w_rg ?_ | refine wo_nil ?_ | refine g_skU ?_ | refine g_skT ?_ | refine g_skF ?_
    | ((first | apply s_plain | apply s_void | apply s_guard | apply g_goT | apply g_goF); · simp only [go_sem, Nat.reduceEqDiff, Nat.reduceAdd, Nat.reduceLeDiff, hb]; (first | done | rfl))
    | ((first | apply g_T | apply g_F | apply g_gT | apply g_gF); · intro q1_; (first | intro q2_ | have q2_ := q1_); simp only [go_sem, Nat.reduceEqDiff, Nat.reduceAdd, Nat.reduceLeDiff, hb, q1_, q2_]; (first | done | rfl))
    | (apply w_condX; · simp only [go_sem, Nat.reduceEqDiff, Nat.reduceAdd, Nat.reduceLeDiff, hb]; (first | done | rfl)); (first | refine wcd_T ?_ | refine wcd_F ?_)
    | refine w_skip ?_ | refine w_exit ?_ | refine w_ret ?_
    | fail
    )
        exact ⟨by first | exact .inr rfl | exact .inr trivial | exact .inl rfl, by simp only [go_sem, Nat.reduceEqDiff, Nat.reduceAdd, Nat.reduceLeDiff, retOf, resOf, decide_eq_false hne]; first | done | rfl⟩
    · rintro fr1 σ1 h3 hfr
      try simp only [if_true]
      have heq : a = b := List.ext_getElem? fun i => by
        by_cases hi : i < a.length
        · exact h3 i hi
        · rw [List.getElem?_eq_none (by omega), List.getElem?_eq_none (by omega)]
      (repeat' first
    | refine w_seq ?_ | refine w_rg ?_ | refine wo_nil ?_ | refine g_skU ?_ | refine g_skT ?_ | refine g_skF ?_
    | ((first | apply s_plain | apply s_void | apply s_guard | apply g_goT | apply g_goF); · simp only [go_sem, Nat.reduceEqDiff, Nat.reduceAdd, Nat.reduceLeDiff]; (first | done | rfl))
    | ((first | apply g_T | apply g_F | apply g_gT | apply g_gF); · intro q1_; (first | intro q2_ | have q2_ := q1_); simp only [go_sem, Nat.reduceEqDiff, Nat.reduceAdd, Nat.reduceLeDiff, q1_, q2_]; (first | done | rfl))
    | (apply w_condX; · simp only [go_sem, Nat.reduceEqDiff, Nat.reduceAdd, Nat.reduceLeDiff]; (first | done | rfl)); (first | refine wcd_T ?_ | refine wcd_F ?_)
    | refine w_skip ?_ | refine w_exit ?_ | refine w_ret ?_
    | fail
    )
      exact ⟨by first | exact .inr rfl | exact .inr trivial | exact .inl rfl, by simp only [go_sem, Nat.reduceEqDiff, Nat.reduceAdd, Nat.reduceLeDiff, retOf, resOf, decide_eq_true heq]; first | done | rfl⟩
  · have hc : ((a.length : Int) != (b.length : Int)) = true := by simp; omega
    have hne : a ≠ b := fun h => hl (by rw [h])
    (repeat' first
    | refine w_seq ?_ | refine w_rg ?_ | refine wo_nil ?_ | refine g_skU ?_ | refine g_skT ?_ | refine g_skF ?_
    | ((first | apply s_plain | apply s_void | apply s_guard | apply g_goT | apply g_goF); · simp only [go_sem, Nat.reduceEqDiff, Nat.reduceAdd, Nat.reduceLeDiff, hc]; (first | done | rfl))
    | ((first | apply g_T | apply g_F | apply g_gT | apply g_gF); · intro q1_; (first | intro q2_ | have q2_ := q1_); simp only [go_sem, Nat.reduceEqDiff, Nat.reduceAdd, Nat.reduceLeDiff, hc, q1_, q2_]; (first | done | rfl))
    | (apply w_condX; · simp only [go_sem, Nat.reduceEqDiff, Nat.reduceAdd, Nat.reduceLeDiff, hc]; (first | done | rfl)); (first | refine wcd_T ?_ | refine wcd_F ?_)
    | refine w_skip ?_ | refine w_exit ?_ | refine w_ret ?_
    | fail
    )
    exact ⟨by first | exact .inr rfl | exact .inr trivial | exact .inl rfl, by simp only [go_sem, Nat.reduceEqDiff, Nat.reduceAdd, Nat.reduceLeDiff, retOf, resOf, decide_eq_false hne]; first | done | rfl⟩
theorem a35 (D : Has lhe env) {a b : List ByteArray} (hn : a.length ≤ 9223372036854775807) : AV env 35 [.sl (strs a), .sl (strs b)] = some (.sc (.bool (decide (a = b)))) := by
  refine AV_wp (D (35, d35) (by simp [lhe])) rfl ?_
  have hla := strs_len a
  have hlb := strs_len b
  (repeat' first
    | refine w_seq ?_ | refine w_rg ?_ | refine wo_nil ?_ | refine g_skU ?_ | refine g_skT ?_ | refine g_skF ?_
    | ((first | apply s_plain | apply s_void | apply s_guard | apply g_goT | apply g_goF); · simp only [go_sem, Nat.reduceEqDiff, Nat.reduceAdd, Nat.reduceLeDiff, hla, hlb]; (first | done | rfl))
    | ((first | apply g_T | apply g_F | apply g_gT | apply g_gF); · intro q1_; (first | intro q2_ | have q2_ := q1_); simp only [go_sem, Nat.reduceEqDiff, Nat.reduceAdd, Nat.reduceLeDiff, hla, hlb, q1_, q2_]; (first | done | rfl))
    | fail
    )
  by_cases hl : a.length = b.length
  · have hc : ((a.length : Int) != (b.length : Int)) = false := by rw [hl]; simp
    (repeat' first
    | refine w_seq ?_ | refine w_rg ?_ | refine wo_nil ?_ | refine g_skU ?_ | refine g_skT ?_ | refine g_skF ?_
    | ((first | apply s_plain | apply s_void | apply s_guard | apply g_goT | apply g_goF); · simp only [go_sem, Nat.reduceEqDiff, Nat.reduceAdd, Nat.reduceLeDiff, hc]; (first | done | rfl))
    | ((first | apply g_T | apply g_F | apply g_gT | apply g_gF); · intro q1_; (first | intro q2_ | have q2_ := q1_); simp only [go_sem, Nat.reduceEqDiff, Nat.reduceAdd, Nat.reduceLeDiff, hc, q1_, q2_]; (first | done | rfl))
    | (apply w_condX; · simp only [go_sem, Nat.reduceEqDiff, Nat.reduceAdd, Nat.reduceLeDiff, hc]; (first | done | rfl)); (first | refine wcd_T ?_ | refine wcd_F ?_)
    | refine w_skip ?_ | refine w_exit ?_ | refine w_ret ?_
    | fail
    )
    (repeat' first
    | refine w_seq ?_ | refine w_rg ?_ | refine wo_nil ?_ | refine g_skU ?_ | refine g_skT ?_ | refine g_skF ?_
    | ((first | apply s_plain | apply s_void | apply s_guard | apply g_goT | apply g_goF); · simp only [go_sem, Nat.reduceEqDiff, Nat.reduceAdd, Nat.reduceLeDiff, hla]; (first | done | rfl))
    | ((first | apply g_T | apply g_F | apply g_gT | apply g_gF); · intro q1_; (first | intro q2_ | have q2_ := q1_); simp only [go_sem, Nat.reduceEqDiff, Nat.reduceAdd, Nat.reduceLeDiff, hla, q1_, q2_]; (first | done | rfl))
    | fail
    )
    refine w_block (w_rangeF a.length hn (fun i fr σ => ∀ j, j < i → a[j]? = b[j]?) ⟨by decide, rfl, rfl⟩ (fun _ _ _ _ h => ⟨h, h, h⟩) (fun j hj => by omega) (by simp only [go_sem, Nat.reduceEqDiff, Nat.reduceAdd, Nat.reduceLeDiff]; first | done | rfl) (by simp only [go_sem, Nat.reduceEqDiff, Nat.reduceAdd, Nat.reduceLeDiff, hla]; first | done | rfl) ?_ ?_)
    · rintro i fr1 σ1 hi h3 hti hfr
      have f0_0 := hfr 0 rfl; have f0_1 := hfr 1 rfl; have f0_12 := hfr 12 rfl; try (simp only [go_sem, Nat.reduceEqDiff, Nat.reduceAdd, Nat.reduceLeDiff] at f0_0); try (simp only [go_sem, Nat.reduceEqDiff, Nat.reduceAdd, Nat.reduceLeDiff] at f0_1); try (simp only [go_sem, Nat.reduceEqDiff, Nat.reduceAdd, Nat.reduceLeDiff] at f0_12)
      have hi2 : i < b.length := by omega
      have qa := List.getElem?_eq_getElem hi
      have qb := List.getElem?_eq_getElem hi2
      have hx := strs_at qa
      have hy := strs_at qb
      have e1 : (0 : Int) ≤ (i : Int) ∧ (i : Int) < (a.length : Int) := by omega
      have e2 : (0 : Int) ≤ (i : Int) ∧ (i : Int) < (b.length : Int) := by omega
      refine w_block ?_
      (repeat' first
    | refine w_seq ?_ | refine w_rg ?_ | refine wo_nil ?_ | refine g_skU ?_ | refine g_skT ?_ | refine g_skF ?_
    | ((first | apply s_plain | apply s_void | apply s_guard | apply g_goT | apply g_goF); · simp only [go_sem, Nat.reduceEqDiff, Nat.reduceAdd, Nat.reduceLeDiff, f0_0, f0_1, f0_12, hti, e1, e2, hla, hlb, Int.toNat_natCast, hx, hy, ba_beq]; (first | done | rfl))
    | ((first | apply g_T | apply g_F | apply g_gT | apply g_gF); · intro q1_; (first | intro q2_ | have q2_ := q1_); simp only [go_sem, Nat.reduceEqDiff, Nat.reduceAdd, Nat.reduceLeDiff, f0_0, f0_1, f0_12, hti, e1, e2, hla, hlb, Int.toNat_natCast, hx, hy, ba_beq, q1_, q2_]; (first | done | rfl))
    | fail
    )
      by_cases he : a[i] = b[i]
      · have hb : (!(decide (a[i] = b[i]))) = false := by simp [he]
        (repeat' first
    | refine w_seq ?_ | refine w_rg ?_ | refine wo_nil ?_ | refine g_skU ?_ | refine g_skT ?_ | refine g_skF ?_
    | ((first | apply s_plain | apply s_void | apply s_guard | apply g_goT | apply g_goF); · simp only [go_sem, Nat.reduceEqDiff, Nat.reduceAdd, Nat.reduceLeDiff, hb]; (first | done | rfl))
    | ((first | apply g_T | apply g_F | apply g_gT | apply g_gF); · intro q1_; (first | intro q2_ | have q2_ := q1_); simp only [go_sem, Nat.reduceEqDiff, Nat.reduceAdd, Nat.reduceLeDiff, hb, q1_, q2_]; (first | done | rfl))
    | (apply w_condX; · simp only [go_sem, Nat.reduceEqDiff, Nat.reduceAdd, Nat.reduceLeDiff, hb]; (first | done | rfl)); (first | refine wcd_T ?_ | refine wcd_F ?_)
    | refine w_skip ?_ | refine w_exit ?_ | refine w_ret ?_
    | fail
    )
        intro j hj
        by_cases hji : j = i
        · rw [hji, qa, qb, he]
        · exact h3 j (by omega)
      · have hb : (!(decide (a[i] = b[i]))) = true := by simp [he]
        have hne : a ≠ b := fun h => he (by subst h; rfl)
        (repeat' first
    | refine w_seq ?_ | refine w_rg ?_ | refine wo_nil ?_ | refine g_skU ?_ | refine g_skT ?_ | refine g_skF ?_
    | ((first | apply s_plain | apply s_void | apply s_guard | apply g_goT | apply g_goF); · simp only [go_sem, Nat.reduceEqDiff, Nat.reduceAdd, Nat.reduceLeDiff, hb]; (first | done | rfl))
    | ((first | apply g_T | apply g_F | apply g_gT | apply g_gF); · intro q1_; (first | intro q2_ | have q2_ := q1_); simp only [go_sem, Nat.reduceEqDiff, Nat.reduceAdd, Nat.reduceLeDiff, hb, q1_, q2_]; (first | done | rfl))
    | (apply w_condX; · simp only [go_sem, Nat.reduceEqDiff, Nat.reduceAdd, Nat.reduceLeDiff, hb]; (first | done | rfl)); (first | refine wcd_T ?_ | refine wcd_F ?_)
    | refine w_skip ?_ | refine w_exit ?_ | refine w_ret ?_
    | fail
    )
        exact ⟨by first | exact .inr rfl | exact .inr trivial | exact .inl rfl, by simp only [go_sem, Nat.reduceEqDiff, Nat.reduceAdd, Nat.reduceLeDiff, retOf, resOf, decide_eq_false hne]; first | done | rfl⟩
    · rintro fr1 σ1 h3 hfr
      try simp only [if_true]
      have heq : a = b := List.ext_getElem? fun i => by
        by_cases hi : i < a.length
        · exact h3 i hi
        · rw [List.getElem?_eq_none (by omega), List.getElem?_eq_none (by omega)]
      (repeat' first
    | refine w_seq ?_ | refine w_rg ?_ | refine wo_nil ?_ | refine g_skU ?_ | refine g_skT ?_ | refine g_skF ?_
    | ((first | apply s_plain | apply s_void | apply s_guard | apply g_goT | apply g_goF); · simp only [go_sem, Nat.reduceEqDiff, Nat.reduceAdd, Nat.reduceLeDiff]; (first | done | rfl))
    | ((first | apply g_T | apply g_F | apply g_gT | apply g_gF); · intro q1_; (first | intro q2_ | have q2_ := q1_); simp only [go_sem, Nat.reduceEqDiff, Nat.reduceAdd, Nat.reduceLeDiff, q1_, q2_]; (first | done | rfl))
    | (apply w_condX; · simp only [go_sem, Nat.reduceEqDiff, Nat.reduceAdd, Nat.reduceLeDiff]; (first | done | rfl)); (first | refine wcd_T ?_ | refine wcd_F ?_)
    | refine w_skip ?_ | refine w_exit ?_ | refine w_ret ?_
    | fail
    )
      exact ⟨by first | exact .inr rfl | exact .inr trivial | exact .inl rfl, by simp only [go_sem, Nat.reduceEqDiff, Nat.reduceAdd, Nat.reduceLeDiff, retOf, resOf, decide_eq_true heq]; first | done | rfl⟩
  · have hc : ((a.length : Int) != (b.length : Int)) = true := by simp; omega
    have hne : a ≠ b := fun h => hl (by rw [h])
    (repeat' first
    | refine w_seq ?_ | refine w_rg ?_ | refine wo_nil ?_ | refine g_skU ?_ | refine g_skT ?_ | refine g_skF ?_
    | ((first | apply s_plain | apply s_void | apply s_guard | apply g_goT | apply g_goF); · simp only [go_sem, Nat.reduceEqDiff, Nat.reduceAdd, Nat.reduceLeDiff, hc]; (first | done | rfl))
    | ((first | apply g_T | apply g_F | apply g_gT | apply g_gF); · intro q1_; (first | intro q2_ | have q2_ := q1_); simp only [go_sem, Nat.reduceEqDiff, Nat.reduceAdd, Nat.reduceLeDiff, hc, q1_, q2_]; (first | done | rfl))
    | (apply w_condX; · simp only [go_sem, Nat.reduceEqDiff, Nat.reduceAdd, Nat.reduceLeDiff, hc]; (first | done | rfl)); (first | refine wcd_T ?_ | refine wcd_F ?_)
    | refine w_skip ?_ | refine w_exit ?_ | refine w_ret ?_
    | fail
    )
    exact ⟨by first | exact .inr rfl | exact .inr trivial | exact .inl rfl, by simp only [go_sem, Nat.reduceEqDiff, Nat.reduceAdd, Nat.reduceLeDiff, retOf, resOf, decide_eq_false hne]; first | done | rfl⟩
end

section
variable {env : Nat → Option Def} {fr : Fr} {σ σ' σ'' : St} {K : Fr → St → Prop} {Q : X → Fr → St → Prop} {p : PV} {bs : List UInt8}
def nP (l : List UInt8) : Int := (l.filter (· != 45)).foldl addP 0
def sP (l : List UInt8) : Int := if 45 ∈ l then -1 else 1
theorem numP_parts (s : List UInt8) : numP s = sP (s.take 15) * nP (s.take 15) := rfl
theorem nP_snoc (l : List UInt8) (c : UInt8) : nP (l ++ [c]) = if c = 45 then nP l else addP (nP l) c := by
  unfold nP
  rw [List.filter_append, List.foldl_append]
  by_cases h : c = 45
  · simp [h]
  · simp [h]
theorem sP_snoc (l : List UInt8) (c : UInt8) : sP (l ++ [c]) = if c = 45 then -1 else sP l := by
  unfold sP
  by_cases h : c = 45
  · subst h; simp
  · have : ¬ (45 : UInt8) = c := fun e => h e.symm
    simp [h, this]
theorem fold_in : ∀ (l : List UInt8) (n : Int), 0 ≤ n → 0 ≤ l.foldl addP n ∧ l.foldl addP n + 2 ≤ (n + 2) * ((10 ^ l.length : Nat) : Int)
  | [], n, h => ⟨h, by simp⟩
  | c :: l, n, h => by
    have hm : c.toNat % 16 < 16 := Nat.mod_lt _ (by decide)
    have h0 : 0 ≤ addP n c := by unfold addP; omega
    obtain ⟨h1, h2⟩ := fold_in l (addP n c) h0
    refine ⟨h1, Int.le_trans h2 ?_⟩
    rw [List.length_cons, Nat.pow_succ, Int.natCast_mul, Int.mul_comm ((10 ^ l.length : Nat) : Int), ← Int.mul_assoc]
    refine Int.mul_le_mul_of_nonneg_right ?_ (Int.natCast_nonneg _)
    unfold addP; omega
theorem nP_lim (l : List UInt8) (h : l.length ≤ 15) : 0 ≤ nP l ∧ nP l ≤ 2000000000000000 := by
  have ⟨h1, h2⟩ := fold_in (l.filter (· != 45)) 0 (Int.le_refl _)
  have h3 : 10 ^ (l.filter (· != 45)).length ≤ 10 ^ 15 := Nat.pow_le_pow_right (by decide) (Nat.le_trans (List.length_filter_le _ _) h)
  have h4 : 10 ^ 15 = 1000000000000000 := by decide
  unfold nP
  rw [h4] at h3
  have h5 : ((10 ^ (l.filter (· != 45)).length : Nat) : Int) ≤ 1000000000000000 := Int.ofNat_le.2 h3
  generalize ((10 ^ (l.filter (· != 45)).length : Nat) : Int) = q at *
  omega
theorem and15 (c : UInt8) : IntKind.u8.wrap ((BitVec.ofInt 8 (c.toNat : Int) &&& BitVec.ofInt 8 15).toNat : Int) = ((c.toNat % 16 : Nat) : Int) := by
  have : ∀ n : Fin 256, IntKind.u8.wrap ((BitVec.ofInt 8 ((n.val : Nat) : Int) &&& BitVec.ofInt 8 15).toNat : Int) = ((n.val % 16 : Nat) : Int) := by decide +kernel
  exact this ⟨c.toNat, c.toNat_lt⟩
theorem a205 (C : Has lhc env) {s : List UInt8} (hs : s.length ≤ 9223372036854775807) : AV env 205 [txt s] = some (.sc (.int .i64 (numP s))) := by
  refine AV_wp (C (205, d205) (by simp [lhc])) rfl ?_
  (repeat' first
    | refine w_seq ?_ | refine w_rg ?_ | refine wo_nil ?_ | refine g_skU ?_ | refine g_skT ?_ | refine g_skF ?_
    | ((first | apply s_plain | apply s_void | apply s_guard | apply g_goT | apply g_goF); · simp only [go_sem, Nat.reduceEqDiff, Nat.reduceAdd, Nat.reduceLeDiff, mn2, ba_data, ba_size, ba_toList, ba_extract, ba_append, List.toList_toArray]; (first | done | rfl))
    | ((first | apply g_T | apply g_F | apply g_gT | apply g_gF); · intro q1_; (first | intro q2_ | have q2_ := q1_); simp only [go_sem, Nat.reduceEqDiff, Nat.reduceAdd, Nat.reduceLeDiff, mn2, ba_data, ba_size, ba_toList, ba_extract, ba_append, List.toList_toArray, q1_, q2_]; (first | done | rfl))
    | fail
    )
  refine w_block (w_range (min s.length 15) (by omega) (fun i fr σ => fr 0 = txt s ∧ fr 3 = .sc (.int .i64 (nP (s.take i))) ∧ fr 4 = .sc (.int .i64 (sP (s.take i)))) (by decide) ?_ ?_ ?_ _ _ ?_ ?_ ?_)
  · rintro i fr σ v ⟨h0, h1, h2⟩
    refine ⟨⟨?_, ?_, ?_⟩, ⟨?_, ?_, ?_⟩, ⟨?_, ?_, ?_⟩⟩ <;> simp only [go_sem, Nat.reduceEqDiff, Nat.reduceAdd, Nat.reduceLeDiff, h0, h1, h2]
  · rintro i fr σ hi ⟨h0, h3, h4⟩ hti htn
    have hil : i < s.length := by omega
    have e1 : (0 : Int) ≤ (i : Int) ∧ (i : Int) < (s.length : Int) := by omega
    have hx := List.getElem?_eq_getElem hil
    have t1 := nP_snoc (s.take i) s[i]
    have t2 := sP_snoc (s.take i) s[i]
    rw [← List.take_succ_eq_append_getElem hil] at t1 t2
    have hlim := nP_lim (s.take i) (by rw [List.length_take]; omega)
    have hand := and15 s[i]
    have hm : s[i].toNat % 16 < 16 := Nat.mod_lt _ (by decide)
    refine w_block ?_
    (repeat' first
    | refine w_seq ?_ | refine w_rg ?_ | refine wo_nil ?_ | refine g_skU ?_ | refine g_skT ?_ | refine g_skF ?_
    | ((first | apply s_plain | apply s_void | apply s_guard | apply g_goT | apply g_goF); · simp only [go_sem, Nat.reduceEqDiff, Nat.reduceAdd, Nat.reduceLeDiff, h0, hti, e1, Int.toNat_natCast, hx, ba_data, ba_size, ba_toList, ba_extract, ba_append, List.toList_toArray]; (first | done | rfl))
    | ((first | apply g_T | apply g_F | apply g_gT | apply g_gF); · intro q1_; (first | intro q2_ | have q2_ := q1_); simp only [go_sem, Nat.reduceEqDiff, Nat.reduceAdd, Nat.reduceLeDiff, h0, hti, e1, Int.toNat_natCast, hx, ba_data, ba_size, ba_toList, ba_extract, ba_append, List.toList_toArray, q1_, q2_]; (first | done | rfl))
    | fail
    )
    refine w_condB (b := (s[i].toNat : Int) == 45) (by simp only [go_sem, Nat.reduceEqDiff, Nat.reduceAdd, Nat.reduceLeDiff]; first | done | rfl) (fun hc => ?_) (fun hc => ?_)
    · have hb : s[i] = 45 := UInt8.toNat_inj.1 (by have := eq_of_beq hc; simpa using (by omega : s[i].toNat = 45))
      rw [if_pos hb] at t1 t2
      (repeat' first
    | refine w_seq ?_ | refine w_rg ?_ | refine wo_nil ?_ | refine g_skU ?_ | refine g_skT ?_ | refine g_skF ?_
    | ((first | apply s_plain | apply s_void | apply s_guard | apply g_goT | apply g_goF); · simp only [go_sem, Nat.reduceEqDiff, Nat.reduceAdd, Nat.reduceLeDiff]; (first | done | rfl))
    | ((first | apply g_T | apply g_F | apply g_gT | apply g_gF); · intro q1_; (first | intro q2_ | have q2_ := q1_); simp only [go_sem, Nat.reduceEqDiff, Nat.reduceAdd, Nat.reduceLeDiff, q1_, q2_]; (first | done | rfl))
    | (apply w_condX; · simp only [go_sem, Nat.reduceEqDiff, Nat.reduceAdd, Nat.reduceLeDiff]; (first | done | rfl)); (first | refine wcd_T ?_ | refine wcd_F ?_)
    | refine w_skip ?_ | refine w_exit ?_ | refine w_ret ?_
    | fail
    )
      refine ⟨⟨?_, ?_, ?_⟩, ?_, ?_⟩
      · simp only [go_sem, Nat.reduceEqDiff, Nat.reduceAdd, Nat.reduceLeDiff, h0]
      · simp only [go_sem, Nat.reduceEqDiff, Nat.reduceAdd, Nat.reduceLeDiff, h3, t1]
      · simp only [go_sem, Nat.reduceEqDiff, Nat.reduceAdd, Nat.reduceLeDiff, t2]
      · simp only [go_sem, Nat.reduceEqDiff, Nat.reduceAdd, Nat.reduceLeDiff, hti]
      · simp only [go_sem, Nat.reduceEqDiff, Nat.reduceAdd, Nat.reduceLeDiff, htn]
    · have hb : ¬ s[i] = 45 := fun h => by rw [h] at hc; simp at hc
      rw [if_neg hb] at t1 t2
      have w1 : IntKind.i64.wrap (10 * nP (s.take i)) = 10 * nP (s.take i) := by rw [IntKind.wrap_i64]; omega
      have w2 : IntKind.i64.wrap (10 * nP (s.take i) + ((s[i].toNat % 16 : Nat) : Int)) = addP (nP (s.take i)) s[i] := by rw [IntKind.wrap_i64]; unfold addP; omega
      have w3 : IntKind.i64.wrap ((s[i].toNat % 16 : Nat) : Int) = ((s[i].toNat % 16 : Nat) : Int) := by rw [IntKind.wrap_i64]; omega
      (repeat' first
    | refine w_seq ?_ | refine w_rg ?_ | refine wo_nil ?_ | refine g_skU ?_ | refine g_skT ?_ | refine g_skF ?_
    | ((first | apply s_plain | apply s_void | apply s_guard | apply g_goT | apply g_goF); · simp only [go_sem, Nat.reduceEqDiff, Nat.reduceAdd, Nat.reduceLeDiff, h3, w1]; (first | done | rfl))
    | ((first | apply g_T | apply g_F | apply g_gT | apply g_gF); · intro q1_; (first | intro q2_ | have q2_ := q1_); simp only [go_sem, Nat.reduceEqDiff, Nat.reduceAdd, Nat.reduceLeDiff, h3, w1, q1_, q2_]; (first | done | rfl))
    | (apply w_condX; · simp only [go_sem, Nat.reduceEqDiff, Nat.reduceAdd, Nat.reduceLeDiff, h3, w1]; (first | done | rfl)); (first | refine wcd_T ?_ | refine wcd_F ?_)
    | refine w_skip ?_ | refine w_exit ?_ | refine w_ret ?_
    | fail
    )
      (repeat' first
    | refine w_seq ?_ | refine w_rg ?_ | refine wo_nil ?_ | refine g_skU ?_ | refine g_skT ?_ | refine g_skF ?_
    | ((first | apply s_plain | apply s_void | apply s_guard | apply g_goT | apply g_goF); · simp only [go_sem, Nat.reduceEqDiff, Nat.reduceAdd, Nat.reduceLeDiff, h0, h3, hti, e1, Int.toNat_natCast, hx, ba_data, ba_size, ba_toList, ba_extract, ba_append, List.toList_toArray, w1]; (first | done | rfl))
    | ((first | apply g_T | apply g_F | apply g_gT | apply g_gF); · intro q1_; (first | intro q2_ | have q2_ := q1_); simp only [go_sem, Nat.reduceEqDiff, Nat.reduceAdd, Nat.reduceLeDiff, h0, h3, hti, e1, Int.toNat_natCast, hx, ba_data, ba_size, ba_toList, ba_extract, ba_append, List.toList_toArray, w1, q1_, q2_]; (first | done | rfl))
    | fail
    )
      generalize hq : IntKind.u8.wrap _ = q
      obtain rfl : q = ((s[i].toNat % 16 : Nat) : Int) := hq.symm.trans hand
      refine ⟨⟨?_, ?_, ?_⟩, ?_, ?_⟩
      · simp only [go_sem, Nat.reduceEqDiff, Nat.reduceAdd, Nat.reduceLeDiff, h0]
      · simp only [go_sem, Nat.reduceEqDiff, Nat.reduceAdd, Nat.reduceLeDiff, w3, w2, t1]
      · simp only [go_sem, Nat.reduceEqDiff, Nat.reduceAdd, Nat.reduceLeDiff, h4, t2]
      · simp only [go_sem, Nat.reduceEqDiff, Nat.reduceAdd, Nat.reduceLeDiff, hti]
      · simp only [go_sem, Nat.reduceEqDiff, Nat.reduceAdd, Nat.reduceLeDiff, htn]
  · rintro fr σ ⟨h0, h3, h4⟩
    have hlim := nP_lim (s.take 15) (by rw [List.length_take]; omega)
    have hm : s.take (min s.length 15) = s.take 15 := by
      rw [List.take_eq_take_iff]; omega
    rw [hm] at h3 h4
    have hw : IntKind.i64.wrap (sP (s.take 15) * nP (s.take 15)) = numP s := by
      rw [numP_parts]
      unfold sP
      split
      · rw [IntKind.wrap_i64]; omega
      · rw [IntKind.wrap_i64]; omega
    try simp only [if_true]
    (repeat' first
    | refine w_seq ?_ | refine w_rg ?_ | refine wo_nil ?_ | refine g_skU ?_ | refine g_skT ?_ | refine g_skF ?_
    | ((first | apply s_plain | apply s_void | apply s_guard | apply g_goT | apply g_goF); · simp only [go_sem, Nat.reduceEqDiff, Nat.reduceAdd, Nat.reduceLeDiff, h3, h4, hw]; (first | done | rfl))
    | ((first | apply g_T | apply g_F | apply g_gT | apply g_gF); · intro q1_; (first | intro q2_ | have q2_ := q1_); simp only [go_sem, Nat.reduceEqDiff, Nat.reduceAdd, Nat.reduceLeDiff, h3, h4, hw, q1_, q2_]; (first | done | rfl))
    | (apply w_condX; · simp only [go_sem, Nat.reduceEqDiff, Nat.reduceAdd, Nat.reduceLeDiff, h3, h4, hw]; (first | done | rfl)); (first | refine wcd_T ?_ | refine wcd_F ?_)
    | refine w_skip ?_ | refine w_exit ?_ | refine w_ret ?_
    | fail
    )
    exact ⟨by first | exact .inr rfl | exact .inr trivial | exact .inl rfl, by simp only [go_sem, Nat.reduceEqDiff, Nat.reduceAdd, Nat.reduceLeDiff, retOf, resOf]; first | done | rfl⟩
  · refine ⟨?_, ?_, ?_⟩
    · simp only [go_sem, Nat.reduceEqDiff, Nat.reduceAdd, Nat.reduceLeDiff]
    · simp only [go_sem, Nat.reduceEqDiff, Nat.reduceAdd, Nat.reduceLeDiff]; rfl
    · simp only [go_sem, Nat.reduceEqDiff, Nat.reduceAdd, Nat.reduceLeDiff]; rfl
  · simp only [go_sem, Nat.reduceEqDiff, Nat.reduceAdd, Nat.reduceLeDiff]
  · simp only [go_sem, Nat.reduceEqDiff, Nat.reduceAdd, Nat.reduceLeDiff]; exact congrArg (fun n => PV.sc (.int .i64 n)) (by omega)
def cutT (l : List ByteArray) : List ByteArray := (l.take (min l.length 10)).map (cutS 700)
theorem cutT_len (l : List ByteArray) : (cutT l).length = min l.length 10 := by simp [cutT]
theorem cutT_size (l : List ByteArray) : ∀ s ∈ cutT l, s.size ≤ 700 := by
  intro s hs
  obtain ⟨t, _, rfl⟩ := List.mem_map.1 hs
  unfold cutS
  rw [ByteArray.size_extract]; omega
theorem a194 (C : Has lhc env) {l : List ByteArray} (hn : l.length ≤ 9223372036854775807) : AV env 194 [.sl (strs l)] = some (.sl (strs (cutT l))) := by
  refine AV_wp (C (194, d194) (by simp [lhc])) rfl ?_
  have hll := strs_len l
  have hall : (strs l).all (fun x => (cellsOf x).length == 1) = true := by
    rw [List.all_eq_true]
    intro x hx
    simp only [strs, List.mem_map] at hx
    obtain ⟨m, _, rfl⟩ := hx
    rfl
  (repeat' first
    | refine w_seq ?_ | refine w_rg ?_ | refine wo_nil ?_ | refine g_skU ?_ | refine g_skT ?_ | refine g_skF ?_
    | ((first | apply s_plain | apply s_void | apply s_guard | apply g_goT | apply g_goF); · simp only [go_sem, Nat.reduceEqDiff, Nat.reduceAdd, Nat.reduceLeDiff, hll, mn2]; (first | done | rfl))
    | ((first | apply g_T | apply g_F | apply g_gT | apply g_gF); · intro q1_; (first | intro q2_ | have q2_ := q1_); simp only [go_sem, Nat.reduceEqDiff, Nat.reduceAdd, Nat.reduceLeDiff, hll, mn2, q1_, q2_]; (first | done | rfl))
    | fail
    )
  refine s_plain (v := .sl ((strs l).take (min l.length 10))) (σ' := St.nil) (by
    simp only [↓e_slcL]
    have h6 : pa _ (.t 6) = .sl (strs l) := (by simp only [go_sem, Nat.reduceEqDiff, Nat.reduceAdd, Nat.reduceLeDiff] : pa ((((((((frOf [PV.sl (strs l)]).set 2 PV.em).set 3 PV.em).set 6 (PV.sl (strs l))).set 7 (PV.sl (strs l))).set 8 (PV.sc (Value.int IntKind.i64 l.length))).set 9 (PV.sc (Value.int IntKind.i64 (min (l.length : Int) 10))))) (.t 6) = .sl (strs l))
    rw [h6, slcL_cut _ 9 10 1 (strs l) hall (by simp only [go_sem, Nat.reduceEqDiff, Nat.reduceAdd, Nat.reduceLeDiff, hll]; rfl), hll]
    rfl) ?_
  have hlt : ((strs l).take (min l.length 10)).length = min l.length 10 := by rw [List.length_take, hll]; omega
  (repeat' first
    | refine w_seq ?_ | refine w_rg ?_ | refine wo_nil ?_ | refine g_skU ?_ | refine g_skT ?_ | refine g_skF ?_
    | ((first | apply s_plain | apply s_void | apply s_guard | apply g_goT | apply g_goF); · simp only [go_sem, Nat.reduceEqDiff, Nat.reduceAdd, Nat.reduceLeDiff, hlt]; (first | done | rfl))
    | ((first | apply g_T | apply g_F | apply g_gT | apply g_gF); · intro q1_; (first | intro q2_ | have q2_ := q1_); simp only [go_sem, Nat.reduceEqDiff, Nat.reduceAdd, Nat.reduceLeDiff, hlt, q1_, q2_]; (first | done | rfl))
    | fail
    )
  refine w_block (w_range (min l.length 10) (by omega) (fun i fr σ => fr 10 = .sl ((strs l).take (min l.length 10)) ∧ Gat σ [23] 1 false (fr 3) ((strs (cutT l)).take i)) (by decide) ?_ ?_ ?_ _ _ ?_ ?_ ?_)
  · rintro i fr σ v ⟨h0, h1⟩
    refine ⟨⟨?_, ?_⟩, ⟨?_, ?_⟩, ⟨?_, ?_⟩⟩ <;> simp only [go_sem, Nat.reduceEqDiff, Nat.reduceAdd, Nat.reduceLeDiff, h0, h1]
  · rintro i fr σ hi ⟨h10, hg⟩ hti htn
    have hil : i < l.length := by omega
    have hx : ((strs l).take (min l.length 10))[i]? = some (.sc (.string l[i])) := by
      rw [List.getElem?_take, if_pos hi]
      exact strs_at (List.getElem?_eq_getElem hil)
    have e1 : (0 : Int) ≤ (i : Int) ∧ (i : Int) < ((min l.length 10 : Nat) : Int) := by omega
    refine w_block ?_
    have b7 : ∀ (n : Nat) (k : IntKind), bound n (.sc (.int k (min (n : Int) 700))) = some (min n 700) := fun n k => bound_min rfl
    (repeat' first
    | refine w_seq ?_ | refine w_rg ?_ | refine wo_nil ?_ | refine g_skU ?_ | refine g_skT ?_ | refine g_skF ?_
    | ((first | apply s_plain | apply s_void | apply s_guard | apply g_goT | apply g_goF); · simp only [go_sem, Nat.reduceEqDiff, Nat.reduceAdd, Nat.reduceLeDiff, h10, hti, e1, hlt, Int.toNat_natCast, hx, mn2, b7, fillE, List.replicate_succ, List.replicate_zero, List.set_cons_zero]; (first | done | rfl))
    | ((first | apply g_T | apply g_F | apply g_gT | apply g_gF); · intro q1_; (first | intro q2_ | have q2_ := q1_); simp only [go_sem, Nat.reduceEqDiff, Nat.reduceAdd, Nat.reduceLeDiff, h10, hti, e1, hlt, Int.toNat_natCast, hx, mn2, b7, fillE, List.replicate_succ, List.replicate_zero, List.set_cons_zero, q1_, q2_]; (first | done | rfl))
    | fail
    )
    have hL : (strs (cutT l)).take (i + 1) = (strs (cutT l)).take i ++ [.sc (.string (cutS 700 l[i]))] := by
      have hlen : i < (strs (cutT l)).length := by rw [strs_len, cutT_len]; exact hi
      rw [List.take_succ_eq_append_getElem hlen]
      congr 1
      simp [strs, cutT]
    have hlen : ((strs (cutT l)).take i).length ≤ 10 := by rw [List.length_take]; omega
    refine s_gatL (os := [23]) (ys := [.sc (.string (cutS 700 l[i]))]) (by simp only [go_sem, Nat.reduceEqDiff, Nat.reduceAdd, Nat.reduceLeDiff]; exact hg.new _) (by simp only [go_sem, Nat.reduceEqDiff, Nat.reduceAdd, Nat.reduceLeDiff, srcOf, elemsOf]; first | done | rfl) rfl (by simp only [List.length_cons, List.length_nil]; omega) ?_
    intro p σ' hg2 _
    rw [← hL] at hg2
    (repeat' first
    | refine w_seq ?_ | refine w_rg ?_ | refine wo_nil ?_ | refine g_skU ?_ | refine g_skT ?_ | refine g_skF ?_
    | ((first | apply s_plain | apply s_void | apply s_guard | apply g_goT | apply g_goF); · simp only [go_sem, Nat.reduceEqDiff, Nat.reduceAdd, Nat.reduceLeDiff]; (first | done | rfl))
    | ((first | apply g_T | apply g_F | apply g_gT | apply g_gF); · intro q1_; (first | intro q2_ | have q2_ := q1_); simp only [go_sem, Nat.reduceEqDiff, Nat.reduceAdd, Nat.reduceLeDiff, q1_, q2_]; (first | done | rfl))
    | fail
    )
    refine ⟨⟨?_, ?_⟩, ?_, ?_⟩
    · simp only [go_sem, Nat.reduceEqDiff, Nat.reduceAdd, Nat.reduceLeDiff, h10]
    · simp only [go_sem, Nat.reduceEqDiff, Nat.reduceAdd, Nat.reduceLeDiff]; exact hg2
    · simp only [go_sem, Nat.reduceEqDiff, Nat.reduceAdd, Nat.reduceLeDiff, hti]
    · simp only [go_sem, Nat.reduceEqDiff, Nat.reduceAdd, Nat.reduceLeDiff, htn]
  · rintro fr σ ⟨h10, hg⟩
    try simp only [if_true]
    rw [List.take_of_length_le (by rw [strs_len, cutT_len]; exact Nat.le_refl _)] at hg
    have hfz := hg.fz (strs_fz σ _)
    (repeat' first
    | refine w_seq ?_ | refine w_rg ?_ | refine wo_nil ?_ | refine g_skU ?_ | refine g_skT ?_ | refine g_skF ?_
    | ((first | apply s_plain | apply s_void | apply s_guard | apply g_goT | apply g_goF); · simp only [go_sem, Nat.reduceEqDiff, Nat.reduceAdd, Nat.reduceLeDiff]; (first | done | rfl))
    | ((first | apply g_T | apply g_F | apply g_gT | apply g_gF); · intro q1_; (first | intro q2_ | have q2_ := q1_); simp only [go_sem, Nat.reduceEqDiff, Nat.reduceAdd, Nat.reduceLeDiff, q1_, q2_]; (first | done | rfl))
    | (apply w_condX; · simp only [go_sem, Nat.reduceEqDiff, Nat.reduceAdd, Nat.reduceLeDiff]; (first | done | rfl)); (first | refine wcd_T ?_ | refine wcd_F ?_)
    | refine w_skip ?_ | refine w_exit ?_ | refine w_ret ?_
    | fail
    )
    exact ⟨.inr rfl, by simp only [go_sem, Nat.reduceEqDiff, Nat.reduceAdd, Nat.reduceLeDiff, retOf, resOf, hfz]⟩
  · exact ⟨by simp only [go_sem, Nat.reduceEqDiff, Nat.reduceAdd, Nat.reduceLeDiff], by simp only [go_sem, Nat.reduceEqDiff, Nat.reduceAdd, Nat.reduceLeDiff]; exact .em⟩
  · simp only [go_sem, Nat.reduceEqDiff, Nat.reduceAdd, Nat.reduceLeDiff]
  · simp only [go_sem, Nat.reduceEqDiff, Nat.reduceAdd, Nat.reduceLeDiff, hlt]
end

def dIdxF (es : Nat) (sz : Option Nat) : Def := (.code 2 [.tmp 4] (.seq (.rg false [⟨.some 4, .none, .mv (.c (.int .i64 0))⟩]) (.seq (.seq (.rg false [⟨.some 6, .none, .mv (.t 0)⟩, ⟨.some 7, .none, .lenL (.t 6)⟩, ⟨.some 8, .none, .mv (.c (.int .i64 0))⟩]) (.block 0 (.loop (.seq (.rg false [⟨.some 9, .none, .bin .lss (.t 8) (.t 7)⟩]) (.seq (.cond (.t 9) .skip (.exit 0)) (.seq (.block 1 (.seq (.rg false [⟨.some 10, .none, .mv (.t 8)⟩, ⟨.some 5, .none, .mv (.t 10)⟩]) (.seq (.rg false [⟨.some 11, .none, .mv (.t 1)⟩, ⟨.some 12, .none, .mv (.t 0)⟩, ⟨.some 13, .none, .mv (.t 5)⟩, ⟨.some 14, .none, .ia es (.t 12) (.t 13)⟩, ⟨.some 15, .none, .ld sz (.t 14)⟩, ⟨.some 16, .none, .callv (.t 11) .pure [.t 15]⟩]) (.cond (.t 16) (.seq (.rg false [⟨.some 17, .none, .mv (.t 5)⟩, ⟨.some 4, .none, .mv (.t 17)⟩]) .ret) .skip)))) (.rg false [⟨.some 18, .none, .bin .add (.t 8) (.c (.int .i64 1))⟩, ⟨.some 8, .none, .mv (.t 18)⟩]))))))) (.seq (.rg false [⟨.some 4, .none, .mv (.c (.int .i64 (-1)))⟩]) .ret))))
section
variable {env : Nat → Option Def} {fr : Fr} {σ σ' σ'' : St} {K : Fr → St → Prop} {Q : X → Fr → St → Prop} {p : PV} {bs : List UInt8}
def ldE (sz : Option Nat) (e : PV) : Option PV := match sz with
  | none => (cellsOf e)[0]?
  | some n => if 0 + n ≤ (cellsOf e).length then some (.agg (((cellsOf e).drop 0).take n)) else none
def Elems (es : Nat) (sz : Option Nat) (xs : List PV) : Prop := ∀ (i : Nat) e, xs[i]? = some e → (cellsOf e).length = es ∧ ldE sz e = some e
theorem e_ldE (E : Ev) (s : Nat) (fr : Fr) (σ : St) (sz : Option Nat) (a : PA) {xs : List PV} {i : Nat} {e : PV} (ha : pa fr a = .fp xs i 0) (he : xs[i]? = some e) (hl : ldE sz e = some e) : evO E s fr σ (.ld sz a) = some (e, σ) := by
  simp only [evO, ha, deref, he, Option.map_some, Option.bind_some]
  unfold ldE at hl
  cases sz with
  | none => simp only at hl ⊢; rw [hl]; rfl
  | some n =>
    simp only at hl ⊢
    split at hl
    · rename_i hn
      rw [if_pos hn]
      simp only [Option.some.injEq] at hl
      rw [hl]
    · cases hl
theorem idxF_g {k0 es : Nat} {sz : Option Nat} (hk0 : env k0 = some (dIdxF es sz)) {xs : List PV} {k : Nat} {a b : List PV} {q : Nat → Bool} (hn : xs.length ≤ 9223372036854775807) (hE : Elems es sz xs)
    (hz : ∀ (i : Nat) e, xs[i]? = some e → ∀ σ, (a ++ [e] ++ b).mapM (fz σ 12) = some (a ++ [e] ++ b)) (hp : ∀ (i : Nat) e, xs[i]? = some e → AV env k (a ++ [e] ++ b) = some (.sc (.bool (q i)))) :
    AV env k0 [.sl xs, .fn k a b] = some (.sc (.int .i64 (found q xs.length))) := by
  refine AV_wp hk0 rfl ?_
  (repeat' first
    | refine w_seq ?_ | refine w_rg ?_ | refine wo_nil ?_ | refine g_skU ?_ | refine g_skT ?_ | refine g_skF ?_
    | ((first | apply s_plain | apply s_void | apply s_guard | apply g_goT | apply g_goF); · simp only [go_sem, Nat.reduceEqDiff, Nat.reduceAdd, Nat.reduceLeDiff]; (first | done | rfl))
    | ((first | apply g_T | apply g_F | apply g_gT | apply g_gF); · intro q1_; (first | intro q2_ | have q2_ := q1_); simp only [go_sem, Nat.reduceEqDiff, Nat.reduceAdd, Nat.reduceLeDiff, q1_, q2_]; (first | done | rfl))
    | fail
    )
  refine w_block (w_rangeF xs.length hn (fun i fr σ => ∀ j, j < i → q j = false) ⟨by decide, rfl, rfl⟩ (fun _ _ _ _ h => ⟨h, h, h⟩) (fun j hj => by omega) (by simp only [go_sem, Nat.reduceEqDiff, Nat.reduceAdd, Nat.reduceLeDiff]; first | done | rfl) (by simp only [go_sem, Nat.reduceEqDiff, Nat.reduceAdd, Nat.reduceLeDiff]; first | done | rfl) ?_ ?_)
  · rintro i fr1 σ1 hi h3 hti hfr
    have f0_0 := hfr 0 rfl; have f0_1 := hfr 1 rfl; have f0_7 := hfr 7 rfl; try (simp only [go_sem, Nat.reduceEqDiff, Nat.reduceAdd, Nat.reduceLeDiff] at f0_0); try (simp only [go_sem, Nat.reduceEqDiff, Nat.reduceAdd, Nat.reduceLeDiff] at f0_1); try (simp only [go_sem, Nat.reduceEqDiff, Nat.reduceAdd, Nat.reduceLeDiff] at f0_7)
    have hx := List.getElem?_eq_getElem hi
    have e1 : (0 : Int) ≤ (i : Int) ∧ (i : Int) < (xs.length : Int) := by omega
    refine w_block ?_
    obtain ⟨hc, hl⟩ := hE i _ hx
    have hz' := hz i _ hx
    have hp' := hp i _ hx
    simp only [List.append_assoc, List.cons_append, List.nil_append] at hz' hp'
    (repeat' first
    | refine w_seq ?_ | refine w_rg ?_ | refine wo_nil ?_ | refine g_skU ?_ | refine g_skT ?_ | refine g_skF ?_
    | ((first | apply s_plain | apply s_void | apply s_guard | apply g_goT | apply g_goF); · simp only [go_sem, Nat.reduceEqDiff, Nat.reduceAdd, Nat.reduceLeDiff, f0_0, f0_1, f0_7, hti, e1, Int.toNat_natCast, hx, hc, List.append_assoc]; (first | done | rfl))
    | ((first | apply g_T | apply g_F | apply g_gT | apply g_gF); · intro q1_; (first | intro q2_ | have q2_ := q1_); simp only [go_sem, Nat.reduceEqDiff, Nat.reduceAdd, Nat.reduceLeDiff, f0_0, f0_1, f0_7, hti, e1, Int.toNat_natCast, hx, hc, List.append_assoc, q1_, q2_]; (first | done | rfl))
    | fail
    )
    refine s_plain (e_ldE _ _ _ _ _ _ (xs := xs) (i := i) (by simp only [go_sem, Nat.reduceEqDiff, Nat.reduceAdd, Nat.reduceLeDiff]) hx hl) ?_
    (repeat' first
    | refine w_seq ?_ | refine w_rg ?_ | refine wo_nil ?_ | refine g_skU ?_ | refine g_skT ?_ | refine g_skF ?_
    | ((first | apply s_plain | apply s_void | apply s_guard | apply g_goT | apply g_goF); · simp only [go_sem, Nat.reduceEqDiff, Nat.reduceAdd, Nat.reduceLeDiff, List.append_assoc, hz', hp']; (first | done | rfl))
    | ((first | apply g_T | apply g_F | apply g_gT | apply g_gF); · intro q1_; (first | intro q2_ | have q2_ := q1_); simp only [go_sem, Nat.reduceEqDiff, Nat.reduceAdd, Nat.reduceLeDiff, List.append_assoc, hz', hp', q1_, q2_]; (first | done | rfl))
    | fail
    )
    cases hpi : q i with
    | true =>
      (repeat' first
    | refine w_seq ?_ | refine w_rg ?_ | refine wo_nil ?_ | refine g_skU ?_ | refine g_skT ?_ | refine g_skF ?_
    | ((first | apply s_plain | apply s_void | apply s_guard | apply g_goT | apply g_goF); · simp only [go_sem, Nat.reduceEqDiff, Nat.reduceAdd, Nat.reduceLeDiff]; (first | done | rfl))
    | ((first | apply g_T | apply g_F | apply g_gT | apply g_gF); · intro q1_; (first | intro q2_ | have q2_ := q1_); simp only [go_sem, Nat.reduceEqDiff, Nat.reduceAdd, Nat.reduceLeDiff, q1_, q2_]; (first | done | rfl))
    | (apply w_condX; · simp only [go_sem, Nat.reduceEqDiff, Nat.reduceAdd, Nat.reduceLeDiff]; (first | done | rfl)); (first | refine wcd_T ?_ | refine wcd_F ?_)
    | refine w_skip ?_ | refine w_exit ?_ | refine w_ret ?_
    | fail
    )
      exact ⟨by first | exact .inr rfl | exact .inr trivial | exact .inl rfl, by simp only [go_sem, Nat.reduceEqDiff, Nat.reduceAdd, Nat.reduceLeDiff, retOf, resOf, found_hit hi h3 hpi]; first | done | rfl⟩
    | false =>
      (repeat' first
    | refine w_seq ?_ | refine w_rg ?_ | refine wo_nil ?_ | refine g_skU ?_ | refine g_skT ?_ | refine g_skF ?_
    | ((first | apply s_plain | apply s_void | apply s_guard | apply g_goT | apply g_goF); · simp only [go_sem, Nat.reduceEqDiff, Nat.reduceAdd, Nat.reduceLeDiff]; (first | done | rfl))
    | ((first | apply g_T | apply g_F | apply g_gT | apply g_gF); · intro q1_; (first | intro q2_ | have q2_ := q1_); simp only [go_sem, Nat.reduceEqDiff, Nat.reduceAdd, Nat.reduceLeDiff, q1_, q2_]; (first | done | rfl))
    | (apply w_condX; · simp only [go_sem, Nat.reduceEqDiff, Nat.reduceAdd, Nat.reduceLeDiff]; (first | done | rfl)); (first | refine wcd_T ?_ | refine wcd_F ?_)
    | refine w_skip ?_ | refine w_exit ?_ | refine w_ret ?_
    | fail
    )
      intro j hj
      by_cases hji : j = i
      · rw [hji]; exact hpi
      · exact h3 j (by omega)
  · rintro fr1 σ1 h3 hfr
    try simp only [if_true]
    (repeat' first
    | refine w_seq ?_ | refine w_rg ?_ | refine wo_nil ?_ | refine g_skU ?_ | refine g_skT ?_ | refine g_skF ?_
    | ((first | apply s_plain | apply s_void | apply s_guard | apply g_goT | apply g_goF); · simp only [go_sem, Nat.reduceEqDiff, Nat.reduceAdd, Nat.reduceLeDiff]; (first | done | rfl))
    | ((first | apply g_T | apply g_F | apply g_gT | apply g_gF); · intro q1_; (first | intro q2_ | have q2_ := q1_); simp only [go_sem, Nat.reduceEqDiff, Nat.reduceAdd, Nat.reduceLeDiff, q1_, q2_]; (first | done | rfl))
    | (apply w_condX; · simp only [go_sem, Nat.reduceEqDiff, Nat.reduceAdd, Nat.reduceLeDiff]; (first | done | rfl)); (first | refine wcd_T ?_ | refine wcd_F ?_)
    | refine w_skip ?_ | refine w_exit ?_ | refine w_ret ?_
    | fail
    )
    exact ⟨by first | exact .inr rfl | exact .inr trivial | exact .inl rfl, by simp only [go_sem, Nat.reduceEqDiff, Nat.reduceAdd, Nat.reduceLeDiff, retOf, resOf, found_none h3]; first | done | rfl⟩
end

def d207 : Def := (.code 2 [.tmp 3] (.seq (.rg false [⟨.some 2, .none, .box (.t 0)⟩, ⟨.some 3, .none, .mv (.c (.bool false))⟩]) (.seq (.rg true [⟨.some 4, .none, .fa 0 (.t 2)⟩, ⟨.some 5, .none, .ld .none (.t 4)⟩, ⟨.some 6, .none, .ld .none (.t 1)⟩, ⟨.some 7, .none, .ia 1 (.t 6) (.c (.int .i64 2))⟩, ⟨.some 8, .none, .ld .none (.t 7)⟩, ⟨.some 9, .none, .bin .eql (.t 5) (.t 8)⟩, ⟨.some 3, .none, .mv (.t 9)⟩]) .ret)))
def d195 : Def := (.code 1 [.cell 2 (.some 8), .tmp 3] (.seq (.rg false [⟨.some 1, .none, .box (.t 0)⟩, ⟨.some 2, .none, .box (.c (.agg #[.string ⟨#[]⟩, .string ⟨#[]⟩, .int .i64 0, .int .i64 0, .int .i64 0, .int .i64 0, .int .i64 0, .slice .none 0 0]))⟩, ⟨.some 3, .none, .mv (.c (.int .i64 0))⟩]) (.seq (.seq (.rg false [⟨.some 10, .none, .ld .none (.t 1)⟩, ⟨.some 11, .none, .lenL (.t 10)⟩, ⟨.some 12, .none, .bin .neq (.t 11) (.c (.int .i64 8))⟩]) (.cond (.t 12) (.seq (.rg false [⟨.some 13, .none, .build (.agg #[.string ⟨#[]⟩, .string ⟨#[]⟩, .int .i64 0, .int .i64 0, .int .i64 0, .int .i64 0, .int .i64 0, .slice .none 0 0]) []⟩, ⟨.none, .none, .st 8 (.t 2) (.t 13)⟩, ⟨.some 3, .none, .mv (.c (.int .i64 6))⟩]) .ret) .skip)) (.seq (.rg false [⟨.some 15, .none, .ld .none (.t 1)⟩, ⟨.some 16, .none, .ia 1 (.t 15) (.c (.int .i64 7))⟩, ⟨.some 17, .none, .ld .none (.t 16)⟩, ⟨.some 18, .none, .call 204 .pure [.t 17]⟩, ⟨.some 14, .none, .mv (.t 18)⟩, ⟨.some 19, .none, .ext (.t 14) 0⟩, ⟨.some 20, .none, .ext (.t 14) 1⟩, ⟨.some 4, .none, .mv (.t 19)⟩, ⟨.some 5, .none, .mv (.t 20)⟩]) (.seq (.rg true [⟨.some 21, .none, .ld .none (.t 1)⟩, ⟨.some 22, .none, .ia 1 (.t 21) (.c (.int .i64 0))⟩, ⟨.some 23, .none, .ld .none (.t 22)⟩, ⟨.some 24, .none, .ld .none (.t 1)⟩, ⟨.some 25, .none, .ia 1 (.t 24) (.c (.int .i64 1))⟩, ⟨.some 26, .none, .ld .none (.t 25)⟩, ⟨.some 27, .none, .ld .none (.t 1)⟩, ⟨.some 28, .none, .ia 1 (.t 27) (.c (.int .i64 3))⟩, ⟨.some 29, .none, .ld .none (.t 28)⟩, ⟨.some 30, .none, .call 205 .strict [.t 29]⟩, ⟨.some 31, .none, .ld .none (.t 1)⟩, ⟨.some 32, .none, .ia 1 (.t 31) (.c (.int .i64 4))⟩, ⟨.some 33, .none, .ld .none (.t 32)⟩, ⟨.some 34, .none, .call 205 .strict [.t 33]⟩, ⟨.some 35, .none, .ld .none (.t 1)⟩, ⟨.some 36, .none, .ia 1 (.t 35) (.c (.int .i64 5))⟩, ⟨.some 37, .none, .ld .none (.t 36)⟩, ⟨.some 38, .none, .call 205 .strict [.t 37]⟩, ⟨.some 39, .none, .ld .none (.t 1)⟩, ⟨.some 40, .none, .ia 1 (.t 39) (.c (.int .i64 6))⟩, ⟨.some 41, .none, .ld .none (.t 40)⟩, ⟨.some 42, .none, .call 205 .strict [.t 41]⟩, ⟨.some 43, .none, .mv (.t 4)⟩, ⟨.some 44, .none, .build (.agg #[.string ⟨#[]⟩, .string ⟨#[]⟩, .int .i64 0, .int .i64 0, .int .i64 0, .int .i64 0, .int .i64 0, .slice .none 0 0]) [(0, (1, .t 23)), (1, (1, .t 26)), (3, (1, .t 30)), (4, (1, .t 34)), (5, (1, .t 38)), (6, (1, .t 42)), (7, (1, .t 43))]⟩, ⟨.some 6, .none, .box (.c (.agg #[.string ⟨#[]⟩, .string ⟨#[]⟩, .int .i64 0, .int .i64 0, .int .i64 0, .int .i64 0, .int .i64 0, .slice .none 0 0]))⟩, ⟨.none, .none, .st 8 (.t 6) (.t 44)⟩]) (.seq (.rg false [⟨.some 45, .none, .call 115 .pure []⟩, ⟨.some 7, .none, .box (.c (.agg #[.string ⟨#[]⟩, .nilFunc, .string ⟨#[]⟩, .nilFunc, .string ⟨#[]⟩, .nilFunc, .string ⟨#[]⟩, .nilFunc, .string ⟨#[]⟩, .nilFunc, .string ⟨#[]⟩, .nilFunc]))⟩, ⟨.none, .none, .st 12 (.t 7) (.t 45)⟩]) (.seq (.rg false [⟨.some 46, .none, .slcA 2 6 (.t 7)⟩, ⟨.some 47, .none, .mkf 207 [] [.t 1]⟩, ⟨.some 48, .none, .call 206 .pure [.t 46, .t 47]⟩, ⟨.some 49, .none, .fa 2 (.t 6)⟩, ⟨.none, .none, .st 1 (.t 49) (.t 48)⟩]) (.seq (.seq (.rg false [⟨.some 51, .none, .ld (.some 8) (.t 6)⟩, ⟨.some 52, .none, .call 193 .pure [.t 51]⟩, ⟨.some 50, .none, .mv (.t 52)⟩, ⟨.some 53, .none, .ext (.t 50) 0⟩, ⟨.some 54, .none, .ext (.t 50) 1⟩, ⟨.some 8, .none, .mv (.t 53)⟩, ⟨.some 9, .none, .mv (.t 54)⟩]) (.seq (.rg false [⟨.some 55, .none, .mv (.t 9)⟩, ⟨.some 56, .none, .bin .neq (.t 55) (.c (.int .i64 0))⟩, ⟨.some 57, .none, .mv (.t 56)⟩, ⟨.some 58, .some (57, false), .mv (.t 8)⟩, ⟨.some 59, .some (57, false), .ld .none (.t 1)⟩, ⟨.some 60, .some (57, false), .call 35 .pure [.t 58, .t 59]⟩, ⟨.some 61, .some (57, false), .un .not (.t 60)⟩, ⟨.some 62, .none, .pick (.t 57) (.c (.bool true)) (.t 61)⟩]) (.cond (.t 62) (.seq (.rg false [⟨.some 63, .none, .build (.agg #[.string ⟨#[]⟩, .string ⟨#[]⟩, .int .i64 0, .int .i64 0, .int .i64 0, .int .i64 0, .int .i64 0, .slice .none 0 0]) []⟩, ⟨.none, .none, .st 8 (.t 2) (.t 63)⟩, ⟨.some 3, .none, .mv (.c (.int .i64 6))⟩]) .ret) .skip))) (.seq (.rg false [⟨.some 64, .none, .ld (.some 8) (.t 6)⟩, ⟨.none, .none, .st 8 (.t 2) (.t 64)⟩, ⟨.some 3, .none, .mv (.c (.int .i64 0))⟩]) .ret)))))))))
def lhg : List (Nat × Def) := [(207, d207), (206, dIdxF 2 (some 2)), (195, d195)]
section
variable {env : Nat → Option Def} {fr : Fr} {σ σ' σ'' : St} {K : Fr → St → Prop} {Q : X → Fr → St → Prop} {p : PV} {bs : List UInt8}
def sgnL : List ByteArray := [⟨#[]⟩, ⟨#[62]⟩, ⟨#[62, 61]⟩, ⟨#[60]⟩, ⟨#[60, 61]⟩, ⟨#[61, 61]⟩]
def waysE : List PV := [.agg [.sc (.string ⟨#[]⟩), .sc .nilFunc], .agg [.sc (.string ⟨#[62]⟩), .fn 123 [] []], .agg [.sc (.string ⟨#[62, 61]⟩), .fn 124 [] []], .agg [.sc (.string ⟨#[60]⟩), .fn 125 [] []], .agg [.sc (.string ⟨#[60, 61]⟩), .fn 126 [] []], .agg [.sc (.string ⟨#[61, 61]⟩), .fn 127 [] []]]
theorem ways_chunks : chunks 2 6 waysL = waysE := rfl
theorem ways_get {i : Nat} {e : PV} (h : waysE[i]? = some e) : ∃ f, e = .agg [.sc (.string (sgnL.getD i ⟨#[]⟩)), f] ∧ ∀ d σ, fz σ (d + 1) f = some f := by
  have hi : i < 6 := (List.getElem?_eq_some_iff.1 h).1
  obtain rfl | rfl | rfl | rfl | rfl | rfl : i = 0 ∨ i = 1 ∨ i = 2 ∨ i = 3 ∨ i = 4 ∨ i = 5 := by omega
  all_goals
    simp only [waysE, List.getElem?_cons_zero, List.getElem?_cons_succ, Option.some.injEq] at h
    subst h
    exact ⟨_, rfl, fun d σ => rfl⟩
def sgnQ (s : ByteArray) (i : Nat) : Bool := decide (sgnL.getD i ⟨#[]⟩ = s)
theorem found_how (s : ByteArray) : found (sgnQ s) 6 = howP s := by
  unfold found
  rw [show List.range 6 = [0, 1, 2, 3, 4, 5] from rfl]
  simp only [List.find?, sgnQ, sgnL, List.getD_cons_zero, List.getD_cons_succ]
  unfold howP
  by_cases h0 : s = ⟨#[]⟩
  · subst h0; rfl
  by_cases h1 : s = ⟨#[62]⟩
  · subst h1; rfl
  by_cases h2 : s = ⟨#[62, 61]⟩
  · subst h2; rfl
  by_cases h3 : s = ⟨#[60]⟩
  · subst h3; rfl
  by_cases h4 : s = ⟨#[60, 61]⟩
  · subst h4; rfl
  by_cases h5 : s = ⟨#[61, 61]⟩
  · subst h5; rfl
  simp only [h0, h1, h2, h3, h4, h5, Ne.symm h0, Ne.symm h1, Ne.symm h2, Ne.symm h3, Ne.symm h4, Ne.symm h5, decide_false, if_false]
theorem a207 (E : Has lhg env) {s : ByteArray} {f : PV} {l : List ByteArray} {w : ByteArray} (h : l[2]? = some w) : AV env 207 [.agg [.sc (.string s), f], .fp [.sl (strs l)] 0 0] = some (.sc (.bool (decide (s = w)))) := by
  have h2 := strs_at h
  have hl : 2 < l.length := (List.getElem?_eq_some_iff.1 h).1
  have hll := strs_len l
  have e1 : (0 : Int) ≤ 2 ∧ (2 : Int) < (l.length : Int) := by omega
  refine AV_wp (E (207, d207) (by simp [lhg])) rfl ?_
  (repeat' first
    | refine w_seq ?_ | refine w_rg ?_ | refine wo_nil ?_ | refine g_skU ?_ | refine g_skT ?_ | refine g_skF ?_
    | ((first | apply s_plain | apply s_void | apply s_guard | apply g_goT | apply g_goF); · simp only [go_sem, Nat.reduceEqDiff, Nat.reduceAdd, Nat.reduceLeDiff, h2, hll, e1, Int.toNat_natCast, ba_beq, show (2 : Int).toNat = 2 from rfl]; (first | done | rfl))
    | ((first | apply g_T | apply g_F | apply g_gT | apply g_gF); · intro q1_; (first | intro q2_ | have q2_ := q1_); simp only [go_sem, Nat.reduceEqDiff, Nat.reduceAdd, Nat.reduceLeDiff, h2, hll, e1, Int.toNat_natCast, ba_beq, show (2 : Int).toNat = 2 from rfl, q1_, q2_]; (first | done | rfl))
    | (apply w_condX; · simp only [go_sem, Nat.reduceEqDiff, Nat.reduceAdd, Nat.reduceLeDiff, h2, hll, e1, Int.toNat_natCast, ba_beq, show (2 : Int).toNat = 2 from rfl]; (first | done | rfl)); (first | refine wcd_T ?_ | refine wcd_F ?_)
    | refine w_skip ?_ | refine w_exit ?_ | refine w_ret ?_
    | fail
    )
  exact ⟨by first | exact .inr rfl | exact .inr trivial | exact .inl rfl, by simp only [go_sem, Nat.reduceEqDiff, Nat.reduceAdd, Nat.reduceLeDiff, retOf, resOf]; first | done | rfl⟩
theorem a206 (E : Has lhg env) {l : List ByteArray} {w : ByteArray} (h : l[2]? = some w) : AV env 206 [.sl waysE, .fn 207 [] [.fp [.sl (strs l)] 0 0]] = some (.sc (.int .i64 (howP w))) := by
  rw [← found_how w, show (6 : Nat) = waysE.length from rfl]
  refine idxF_g (E (206, dIdxF 2 (some 2)) (by simp [lhg])) (by decide) (fun i e he => ?_) (fun i e he σ => ?_) (fun i e he => ?_)
  · obtain ⟨f, rfl, _⟩ := ways_get he
    exact ⟨rfl, rfl⟩
  · obtain ⟨f, rfl, hf⟩ := ways_get he
    simp only [go_sem, Nat.reduceEqDiff, Nat.reduceAdd, Nat.reduceLeDiff, List.nil_append, List.cons_append, hf]
  · obtain ⟨f, rfl, _⟩ := ways_get he
    exact a207 E h
theorem parseS_held (s : List UInt8) : (parseS s).1.length ≤ 8 ∧ ∀ m ∈ (parseS s).1, m.1.size ≤ 64 ∧ m.2.size ≤ 64 := by
  by_cases h : (parseS s).2 = 0
  · obtain ⟨hr, _⟩ := parse_ok (s := s) (l := (parseS s).1) (by rw [← h])
    exact ⟨right_len hr, fun m hm => may_size ((right_iff.1 hr).1 m hm)⟩
  · rw [parse_bad h]
    exact ⟨by simp, fun m hm => by simp at hm⟩
theorem ways_len : waysL.length = 12 := rfl
theorem ways_okc : okc (.agg waysL) = true := rfl
theorem ways_cl : clL waysL = true := rfl
theorem ways_cells : cellsOf (.agg waysL) = waysL := rfl
theorem ways_fz (σ : St) : waysE.mapM (fz σ 11) = some waysE := rfl
theorem wos_cut {ops : List POp} {K : Fr → St → Prop} (J : Fr → St → Prop) (h : J fr σ) (k : ∀ fr σ, J fr σ → Wos env ops K fr σ) : Wos env ops K fr σ := k fr σ h
theorem small_of {s : ByteArray} {n : Nat} (h : s.size ≤ n) (hn : n ≤ 9223372036854775807) : Small s := by unfold Small; omega
theorem a195 (H : Has la env) (G : Has lc env) (F : Has lf env) (I : Has lg env) (P : Has lp env) (U : Has lu env) (A : Has lha env) (W : Has lhb env) (C : Has lhc env) (D5 : Has lhe env) (E : Has lhg env)
    (h204 : ∀ s : List UInt8, s.length ≤ 4000000000 → AV env 204 [txt s] = some (.tu [.sl (labs (parseS s).1), .sc (.int .i64 (parseS s).2)]))
    {l : List ByteArray} (hn : l.length ≤ 1000) (hs : ∀ s ∈ l, s.size ≤ 9000000000000000000) (h7 : ∀ q, l[7]? = some q → q.size ≤ 4000000000) : AV env 195 [.sl (strs l)] = some (.tu [rule (readP l).1, .sc (.int .i64 (readP l).2)]) := by
  have hll := strs_len l
  refine AV_wp (E (195, d195) (by simp [lhg])) rfl ?_
  by_cases h8 : l.length = 8
  · obtain ⟨q0, q1, q2, q3, q4, q5, q6, q7, rfl⟩ : ∃ q0 q1 q2 q3 q4 q5 q6 q7, l = [q0, q1, q2, q3, q4, q5, q6, q7] := ⟨_, _, _, _, _, _, _, _, list8 h8⟩
    have hz : ∀ q ∈ [q0, q1, q2, q3, q4, q5, q6, q7], q.data.toList.length ≤ 9000000000000000000 := fun q hq => hs q hq
    have g3 := a205 C (s := q3.data.toList) (by have := hz q3 (by simp); omega)
    have g4 := a205 C (s := q4.data.toList) (by have := hz q4 (by simp); omega)
    have g5 := a205 C (s := q5.data.toList) (by have := hz q5 (by simp); omega)
    have g6 := a205 C (s := q6.data.toList) (by have := hz q6 (by simp); omega)
    have g7 := h204 q7.data.toList (h7 q7 rfl)
    rw [txt_eta] at g3 g4 g5 g6 g7
    obtain ⟨hp8, hps⟩ := parseS_held q7.data.toList
    have hread : readP [q0, q1, q2, q3, q4, q5, q6, q7] = if rightR (ruleP [q0, q1, q2, q3, q4, q5, q6, q7]) = true ∧ wordsR (ruleP [q0, q1, q2, q3, q4, q5, q6, q7]) = [q0, q1, q2, q3, q4, q5, q6, q7] then (ruleP [q0, q1, q2, q3, q4, q5, q6, q7], 0) else (emptyR, 6) := by
      unfold readP
      simp only [h8, true_and]
    have hfit : (ruleP [q0, q1, q2, q3, q4, q5, q6, q7]).Fits := ⟨small_of (hs q0 (by simp)) (by decide), small_of (hs q1 (by simp)) (by decide), (by show (parseS q7.data.toList).1.length ≤ _; omega), fun m hm => ⟨small_of (hps m hm).1 (by decide), small_of (hps m hm).2 (by decide)⟩⟩
    have g206 := a206 E (l := [q0, q1, q2, q3, q4, q5, q6, q7]) (w := q2) rfl
    have g193 : AV env 193 [.agg [.sc (.string q0), .sc (.string q1), .sc (.int .i64 (howP q2)), .sc (.int .i64 (numP q3.data.toList)), .sc (.int .i64 (numP q4.data.toList)), .sc (.int .i64 (numP q5.data.toList)), .sc (.int .i64 (numP q6.data.toList)), .sl (labs (parseS q7.data.toList).1)]] = _ := a193 H G F I P U A W hfit
    have g35 := a35 D5 (a := wordsR (ruleP [q0, q1, q2, q3, q4, q5, q6, q7])) (b := [q0, q1, q2, q3, q4, q5, q6, q7]) (by simp [wordsR])
    have h115 := a115 I
    have hrule : rule (ruleP [q0, q1, q2, q3, q4, q5, q6, q7]) = .agg [.sc (.string q0), .sc (.string q1), .sc (.int .i64 (howP q2)), .sc (.int .i64 (numP q3.data.toList)), .sc (.int .i64 (numP q4.data.toList)), .sc (.int .i64 (numP q5.data.toList)), .sc (.int .i64 (numP q6.data.toList)), .sl (labs (parseS q7.data.toList).1)] := rfl
    rw [hread]
    generalize ruleP [q0, q1, q2, q3, q4, q5, q6, q7] = R at *
    generalize wordsR R = wr at *
    generalize numP q3.data.toList = n3 at *
    generalize numP q4.data.toList = n4 at *
    generalize numP q5.data.toList = n5 at *
    generalize numP q6.data.toList = n6 at *
    generalize howP q2 = n2 at *
    generalize labs (parseS q7.data.toList).1 = ls at *
    generalize (parseS q7.data.toList).2 = pe at *
    simp only [strs, List.map_cons, List.map_nil] at g206 ⊢
    rw [show strs [q0, q1, q2, q3, q4, q5, q6, q7] = [.sc (.string q0), .sc (.string q1), .sc (.string q2), .sc (.string q3), .sc (.string q4), .sc (.string q5), .sc (.string q6), .sc (.string q7)] from rfl] at g35
    (repeat' first
    | refine w_seq ?_ | refine w_rg ?_ | refine wo_nil ?_ | refine g_skU ?_ | refine g_skT ?_ | refine g_skF ?_
    | ((first | apply s_plain | apply s_void | apply s_guard | apply g_goT | apply g_goF); · simp only [go_sem, Nat.reduceEqDiff, Nat.reduceAdd, Nat.reduceLeDiff, bne_self_eq_false]; (first | done | rfl))
    | ((first | apply g_T | apply g_F | apply g_gT | apply g_gF); · intro q1_; (first | intro q2_ | have q2_ := q1_); simp only [go_sem, Nat.reduceEqDiff, Nat.reduceAdd, Nat.reduceLeDiff, bne_self_eq_false, q1_, q2_]; (first | done | rfl))
    | (apply w_condX; · simp only [go_sem, Nat.reduceEqDiff, Nat.reduceAdd, Nat.reduceLeDiff, bne_self_eq_false]; (first | done | rfl)); (first | refine wcd_T ?_ | refine wcd_F ?_)
    | refine w_skip ?_ | refine w_exit ?_ | refine w_ret ?_
    | fail
    )
    (repeat' first
    | refine w_seq ?_ | refine w_rg ?_ | refine wo_nil ?_ | refine g_skU ?_ | refine g_skT ?_ | refine g_skF ?_
    | ((first | apply s_plain | apply s_void | apply s_guard | apply g_goT | apply g_goF); · simp only [go_sem, Nat.reduceEqDiff, Nat.reduceAdd, Nat.reduceLeDiff, g7]; (first | done | rfl))
    | ((first | apply g_T | apply g_F | apply g_gT | apply g_gF); · intro q1_; (first | intro q2_ | have q2_ := q1_); simp only [go_sem, Nat.reduceEqDiff, Nat.reduceAdd, Nat.reduceLeDiff, g7, q1_, q2_]; (first | done | rfl))
    | fail
    )
    refine wos_cut (fun fr σ => fr 1 = .bx 2000001 0 1 0 0 ∧ fr 2 = .bx 2000002 0 8 0 0 ∧ fr 4 = .sl ls ∧ fr 23 = .sc (.string q0) ∧ fr 26 = .sc (.string q1) ∧ fr 29 = .sc (.string q3) ∧ σ.m 2000001 0 = some ⟨1, [.sl [.sc (.string q0), .sc (.string q1), .sc (.string q2), .sc (.string q3), .sc (.string q4), .sc (.string q5), .sc (.string q6), .sc (.string q7)]], true, true⟩ ∧ σ.m 2000002 0 = some ⟨8, [.agg [.sc (.string ⟨#[]⟩), .sc (.string ⟨#[]⟩), .sc (.int .i64 0), .sc (.int .i64 0), .sc (.int .i64 0), .sc (.int .i64 0), .sc (.int .i64 0), .em]], true, true⟩ ∧ σ.c 2000006 = 0 ∧ σ.c 2000007 = 0) ?_ ?_
    · refine ⟨?_, ?_, ?_, ?_, ?_, ?_, ?_, ?_, ?_, ?_⟩ <;> simp only [go_sem, Nat.reduceEqDiff, Nat.reduceAdd, Nat.reduceLeDiff]
    rintro fr σ ⟨f1, f2, f4, f23, f26, f29, m1, m2, c6, c7⟩
    (repeat' first
    | refine w_seq ?_ | refine w_rg ?_ | refine wo_nil ?_ | refine g_skU ?_ | refine g_skT ?_ | refine g_skF ?_
    | ((first | apply s_plain | apply s_void | apply s_guard | apply g_goT | apply g_goF); · simp only [go_sem, Nat.reduceEqDiff, Nat.reduceAdd, Nat.reduceLeDiff, f1, m1, f29, g3, g4, g5, g6, List.getElem?_cons_zero, List.getElem?_cons_succ]; (first | done | rfl))
    | ((first | apply g_T | apply g_F | apply g_gT | apply g_gF); · intro q1_; (first | intro q2_ | have q2_ := q1_); simp only [go_sem, Nat.reduceEqDiff, Nat.reduceAdd, Nat.reduceLeDiff, f1, m1, f29, g3, g4, g5, g6, List.getElem?_cons_zero, List.getElem?_cons_succ, q1_, q2_]; (first | done | rfl))
    | fail
    )
    (repeat' first
    | refine w_seq ?_ | refine w_rg ?_ | refine wo_nil ?_ | refine g_skU ?_ | refine g_skT ?_ | refine g_skF ?_
    | ((first | apply s_plain | apply s_void | apply s_guard | apply g_goT | apply g_goF); · simp only [go_sem, Nat.reduceEqDiff, Nat.reduceAdd, Nat.reduceLeDiff, f4, f23, f26, c6, fillP, splice, List.take_succ_cons, List.drop_succ_cons, List.modify_zero_cons, List.modify_cons]; (first | done | rfl))
    | ((first | apply g_T | apply g_F | apply g_gT | apply g_gF); · intro q1_; (first | intro q2_ | have q2_ := q1_); simp only [go_sem, Nat.reduceEqDiff, Nat.reduceAdd, Nat.reduceLeDiff, f4, f23, f26, c6, fillP, splice, List.take_succ_cons, List.drop_succ_cons, List.modify_zero_cons, List.modify_cons, q1_, q2_]; (first | done | rfl))
    | fail
    )
    refine wos_cut (fun fr σ => fr 1 = .bx 2000001 0 1 0 0 ∧ fr 2 = .bx 2000002 0 8 0 0 ∧ fr 6 = .bx 2000006 0 8 0 0 ∧ σ.m 2000001 0 = some ⟨1, [.sl [.sc (.string q0), .sc (.string q1), .sc (.string q2), .sc (.string q3), .sc (.string q4), .sc (.string q5), .sc (.string q6), .sc (.string q7)]], true, true⟩ ∧ σ.m 2000002 0 = some ⟨8, [.agg [.sc (.string ⟨#[]⟩), .sc (.string ⟨#[]⟩), .sc (.int .i64 0), .sc (.int .i64 0), .sc (.int .i64 0), .sc (.int .i64 0), .sc (.int .i64 0), .em]], true, true⟩ ∧ σ.m 2000006 0 = some ⟨8, [.agg [.sc (.string q0), .sc (.string q1), .sc (.int .i64 0), .sc (.int .i64 n3), .sc (.int .i64 n4), .sc (.int .i64 n5), .sc (.int .i64 n6), .sl ls]], true, true⟩ ∧ σ.c 2000007 = 0) ?_ ?_
    · refine ⟨?_, ?_, ?_, ?_, ?_, ?_, ?_⟩ <;> simp only [go_sem, Nat.reduceEqDiff, Nat.reduceAdd, Nat.reduceLeDiff, f1, f2, f4, f23, f26, m1, m2, c6, c7, List.modify_zero_cons, List.take_succ_cons, List.drop_succ_cons]
    clear f1 f2 f4 f23 f26 f29 m1 m2 c6 c7
    rintro fr σ ⟨f1, f2, f6, m1, m2, m6, c7⟩
    (repeat' first
    | refine w_seq ?_ | refine w_rg ?_ | refine wo_nil ?_ | refine g_skU ?_ | refine g_skT ?_ | refine g_skF ?_
    | ((first | apply s_plain | apply s_void | apply s_guard | apply g_goT | apply g_goF); · simp only [go_sem, Nat.reduceEqDiff, Nat.reduceAdd, Nat.reduceLeDiff, h115, c7, ways_len, ways_okc, ways_cl, ways_cells, ways_chunks]; (first | done | rfl))
    | ((first | apply g_T | apply g_F | apply g_gT | apply g_gF); · intro q1_; (first | intro q2_ | have q2_ := q1_); simp only [go_sem, Nat.reduceEqDiff, Nat.reduceAdd, Nat.reduceLeDiff, h115, c7, ways_len, ways_okc, ways_cl, ways_cells, ways_chunks, q1_, q2_]; (first | done | rfl))
    | fail
    )
    refine wos_cut (fun fr σ => fr 1 = .bx 2000001 0 1 0 0 ∧ fr 2 = .bx 2000002 0 8 0 0 ∧ fr 6 = .bx 2000006 0 8 0 0 ∧ fr 46 = .sl waysE ∧ fr 47 = .fn 207 [] [.bx 2000001 0 1 0 0] ∧ σ.m 2000001 0 = some ⟨1, [.sl [.sc (.string q0), .sc (.string q1), .sc (.string q2), .sc (.string q3), .sc (.string q4), .sc (.string q5), .sc (.string q6), .sc (.string q7)]], true, true⟩ ∧ σ.m 2000002 0 = some ⟨8, [.agg [.sc (.string ⟨#[]⟩), .sc (.string ⟨#[]⟩), .sc (.int .i64 0), .sc (.int .i64 0), .sc (.int .i64 0), .sc (.int .i64 0), .sc (.int .i64 0), .em]], true, true⟩ ∧ σ.m 2000006 0 = some ⟨8, [.agg [.sc (.string q0), .sc (.string q1), .sc (.int .i64 0), .sc (.int .i64 n3), .sc (.int .i64 n4), .sc (.int .i64 n5), .sc (.int .i64 n6), .sl ls]], true, true⟩) ?_ ?_
    · refine ⟨?_, ?_, ?_, ?_, ?_, ?_, ?_, ?_⟩ <;> simp only [go_sem, Nat.reduceEqDiff, Nat.reduceAdd, Nat.reduceLeDiff, f1, f2, f6, m1, m2, m6, ways_chunks]
    clear f1 f2 f6 m1 m2 m6 c7
    rintro fr σ ⟨f1, f2, f6, f46, f47, m1, m2, m6⟩
    have hwz := ways_fz σ
    (repeat' first
    | refine w_seq ?_ | refine w_rg ?_ | refine wo_nil ?_ | refine g_skU ?_ | refine g_skT ?_ | refine g_skF ?_
    | ((first | apply s_plain | apply s_void | apply s_guard | apply g_goT | apply g_goF); · simp only [go_sem, Nat.reduceEqDiff, Nat.reduceAdd, Nat.reduceLeDiff, f46, f47, hwz, m1, g206, f6, m6, splice, List.take_succ_cons, List.drop_succ_cons, List.modify_zero_cons, List.modify_cons]; (first | done | rfl))
    | ((first | apply g_T | apply g_F | apply g_gT | apply g_gF); · intro q1_; (first | intro q2_ | have q2_ := q1_); simp only [go_sem, Nat.reduceEqDiff, Nat.reduceAdd, Nat.reduceLeDiff, f46, f47, hwz, m1, g206, f6, m6, splice, List.take_succ_cons, List.drop_succ_cons, List.modify_zero_cons, List.modify_cons, q1_, q2_]; (first | done | rfl))
    | fail
    )
    refine wos_cut (fun fr σ => fr 1 = .bx 2000001 0 1 0 0 ∧ fr 2 = .bx 2000002 0 8 0 0 ∧ fr 6 = .bx 2000006 0 8 0 0 ∧ fr 51 = .agg [.sc (.string q0), .sc (.string q1), .sc (.int .i64 n2), .sc (.int .i64 n3), .sc (.int .i64 n4), .sc (.int .i64 n5), .sc (.int .i64 n6), .sl ls] ∧ σ.m 2000001 0 = some ⟨1, [.sl [.sc (.string q0), .sc (.string q1), .sc (.string q2), .sc (.string q3), .sc (.string q4), .sc (.string q5), .sc (.string q6), .sc (.string q7)]], true, true⟩ ∧ σ.m 2000002 0 = some ⟨8, [.agg [.sc (.string ⟨#[]⟩), .sc (.string ⟨#[]⟩), .sc (.int .i64 0), .sc (.int .i64 0), .sc (.int .i64 0), .sc (.int .i64 0), .sc (.int .i64 0), .em]], true, true⟩ ∧ σ.m 2000006 0 = some ⟨8, [.agg [.sc (.string q0), .sc (.string q1), .sc (.int .i64 n2), .sc (.int .i64 n3), .sc (.int .i64 n4), .sc (.int .i64 n5), .sc (.int .i64 n6), .sl ls]], true, true⟩) ?_ ?_
    · refine ⟨?_, ?_, ?_, ?_, ?_, ?_, ?_⟩ <;> simp only [go_sem, Nat.reduceEqDiff, Nat.reduceAdd, Nat.reduceLeDiff, f1, f2, f6, m1, m2, m6, splice, List.take_succ_cons, List.drop_succ_cons, List.modify_zero_cons, List.modify_cons]
    clear f1 f2 f6 f46 f47 m1 m2 m6
    rintro fr σ ⟨f1, f2, f6, f51, m1, m2, m6⟩
    cases hr : rightR R with
    | false =>
      rw [hr] at g193
      simp only [if_false, Bool.false_eq_true] at g193
      rw [if_neg (fun h => by cases h.1)]
      (repeat' first
    | refine w_seq ?_ | refine w_rg ?_ | refine wo_nil ?_ | refine g_skU ?_ | refine g_skT ?_ | refine g_skF ?_
    | ((first | apply s_plain | apply s_void | apply s_guard | apply g_goT | apply g_goF); · simp only [go_sem, Nat.reduceEqDiff, Nat.reduceAdd, Nat.reduceLeDiff, f51, g193]; (first | done | rfl))
    | ((first | apply g_T | apply g_F | apply g_gT | apply g_gF); · intro q1_; (first | intro q2_ | have q2_ := q1_); simp only [go_sem, Nat.reduceEqDiff, Nat.reduceAdd, Nat.reduceLeDiff, f51, g193, q1_, q2_]; (first | done | rfl))
    | fail
    )
      (repeat' first
    | refine w_seq ?_ | refine w_rg ?_ | refine wo_nil ?_ | refine g_skU ?_ | refine g_skT ?_ | refine g_skF ?_
    | ((first | apply s_plain | apply s_void | apply s_guard | apply g_goT | apply g_goF); · simp only [go_sem, Nat.reduceEqDiff, Nat.reduceAdd, Nat.reduceLeDiff, show ((1 : Int) != 0) = true from rfl]; (first | done | rfl))
    | ((first | apply g_T | apply g_F | apply g_gT | apply g_gF); · intro q1_; (first | intro q2_ | have q2_ := q1_); simp only [go_sem, Nat.reduceEqDiff, Nat.reduceAdd, Nat.reduceLeDiff, show ((1 : Int) != 0) = true from rfl, q1_, q2_]; (first | done | rfl))
    | (apply w_condX; · simp only [go_sem, Nat.reduceEqDiff, Nat.reduceAdd, Nat.reduceLeDiff, show ((1 : Int) != 0) = true from rfl]; (first | done | rfl)); (first | refine wcd_T ?_ | refine wcd_F ?_)
    | refine w_skip ?_ | refine w_exit ?_ | refine w_ret ?_
    | fail
    )
      (repeat' first
    | refine w_seq ?_ | refine w_rg ?_ | refine wo_nil ?_ | refine g_skU ?_ | refine g_skT ?_ | refine g_skF ?_
    | ((first | apply s_plain | apply s_void | apply s_guard | apply g_goT | apply g_goF); · simp only [go_sem, Nat.reduceEqDiff, Nat.reduceAdd, Nat.reduceLeDiff, f2, m2]; (first | done | rfl))
    | ((first | apply g_T | apply g_F | apply g_gT | apply g_gF); · intro q1_; (first | intro q2_ | have q2_ := q1_); simp only [go_sem, Nat.reduceEqDiff, Nat.reduceAdd, Nat.reduceLeDiff, f2, m2, q1_, q2_]; (first | done | rfl))
    | (apply w_condX; · simp only [go_sem, Nat.reduceEqDiff, Nat.reduceAdd, Nat.reduceLeDiff, f2, m2]; (first | done | rfl)); (first | refine wcd_T ?_ | refine wcd_F ?_)
    | refine w_skip ?_ | refine w_exit ?_ | refine w_ret ?_
    | fail
    )
      refine ⟨.inr rfl, ?_⟩
      simp only [go_sem, Nat.reduceEqDiff, Nat.reduceAdd, Nat.reduceLeDiff, retOf, resOf, f2, splice, List.take_succ_cons, List.drop_succ_cons, List.modify_zero_cons, List.modify_cons]
      rfl
    | true =>
      rw [hr] at g193
      simp only [if_true, true_and] at g193 ⊢
      (repeat' first
    | refine w_seq ?_ | refine w_rg ?_ | refine wo_nil ?_ | refine g_skU ?_ | refine g_skT ?_ | refine g_skF ?_
    | ((first | apply s_plain | apply s_void | apply s_guard | apply g_goT | apply g_goF); · simp only [go_sem, Nat.reduceEqDiff, Nat.reduceAdd, Nat.reduceLeDiff, f51, g193, bne_self_eq_false]; (first | done | rfl))
    | ((first | apply g_T | apply g_F | apply g_gT | apply g_gF); · intro q1_; (first | intro q2_ | have q2_ := q1_); simp only [go_sem, Nat.reduceEqDiff, Nat.reduceAdd, Nat.reduceLeDiff, f51, g193, bne_self_eq_false, q1_, q2_]; (first | done | rfl))
    | fail
    )
      (repeat' first
    | refine w_seq ?_ | refine w_rg ?_ | refine wo_nil ?_ | refine g_skU ?_ | refine g_skT ?_ | refine g_skF ?_
    | ((first | apply s_plain | apply s_void | apply s_guard | apply g_goT | apply g_goF); · simp only [go_sem, Nat.reduceEqDiff, Nat.reduceAdd, Nat.reduceLeDiff, f1, m1, g35, bne_self_eq_false]; (first | done | rfl))
    | ((first | apply g_T | apply g_F | apply g_gT | apply g_gF); · intro q1_; (first | intro q2_ | have q2_ := q1_); simp only [go_sem, Nat.reduceEqDiff, Nat.reduceAdd, Nat.reduceLeDiff, f1, m1, g35, bne_self_eq_false, q1_, q2_]; (first | done | rfl))
    | fail
    )
      cases hw : decide (wr = [q0, q1, q2, q3, q4, q5, q6, q7]) with
      | true =>
        rw [if_pos (of_decide_eq_true hw)]
        (repeat' first
    | refine w_seq ?_ | refine w_rg ?_ | refine wo_nil ?_ | refine g_skU ?_ | refine g_skT ?_ | refine g_skF ?_
    | ((first | apply s_plain | apply s_void | apply s_guard | apply g_goT | apply g_goF); · simp only [go_sem, Nat.reduceEqDiff, Nat.reduceAdd, Nat.reduceLeDiff]; (first | done | rfl))
    | ((first | apply g_T | apply g_F | apply g_gT | apply g_gF); · intro q1_; (first | intro q2_ | have q2_ := q1_); simp only [go_sem, Nat.reduceEqDiff, Nat.reduceAdd, Nat.reduceLeDiff, q1_, q2_]; (first | done | rfl))
    | (apply w_condX; · simp only [go_sem, Nat.reduceEqDiff, Nat.reduceAdd, Nat.reduceLeDiff]; (first | done | rfl)); (first | refine wcd_T ?_ | refine wcd_F ?_)
    | refine w_skip ?_ | refine w_exit ?_ | refine w_ret ?_
    | fail
    )
        (repeat' first
    | refine w_seq ?_ | refine w_rg ?_ | refine wo_nil ?_ | refine g_skU ?_ | refine g_skT ?_ | refine g_skF ?_
    | ((first | apply s_plain | apply s_void | apply s_guard | apply g_goT | apply g_goF); · simp only [go_sem, Nat.reduceEqDiff, Nat.reduceAdd, Nat.reduceLeDiff, f6, m6, f2, m2]; (first | done | rfl))
    | ((first | apply g_T | apply g_F | apply g_gT | apply g_gF); · intro q1_; (first | intro q2_ | have q2_ := q1_); simp only [go_sem, Nat.reduceEqDiff, Nat.reduceAdd, Nat.reduceLeDiff, f6, m6, f2, m2, q1_, q2_]; (first | done | rfl))
    | (apply w_condX; · simp only [go_sem, Nat.reduceEqDiff, Nat.reduceAdd, Nat.reduceLeDiff, f6, m6, f2, m2]; (first | done | rfl)); (first | refine wcd_T ?_ | refine wcd_F ?_)
    | refine w_skip ?_ | refine w_exit ?_ | refine w_ret ?_
    | fail
    )
        refine ⟨.inr rfl, ?_⟩
        simp only [go_sem, Nat.reduceEqDiff, Nat.reduceAdd, Nat.reduceLeDiff, retOf, resOf, f2, splice, List.take_succ_cons, List.drop_succ_cons, List.modify_zero_cons, List.modify_cons, hrule]
      | false =>
        rw [if_neg (of_decide_eq_false hw)]
        (repeat' first
    | refine w_seq ?_ | refine w_rg ?_ | refine wo_nil ?_ | refine g_skU ?_ | refine g_skT ?_ | refine g_skF ?_
    | ((first | apply s_plain | apply s_void | apply s_guard | apply g_goT | apply g_goF); · simp only [go_sem, Nat.reduceEqDiff, Nat.reduceAdd, Nat.reduceLeDiff]; (first | done | rfl))
    | ((first | apply g_T | apply g_F | apply g_gT | apply g_gF); · intro q1_; (first | intro q2_ | have q2_ := q1_); simp only [go_sem, Nat.reduceEqDiff, Nat.reduceAdd, Nat.reduceLeDiff, q1_, q2_]; (first | done | rfl))
    | (apply w_condX; · simp only [go_sem, Nat.reduceEqDiff, Nat.reduceAdd, Nat.reduceLeDiff]; (first | done | rfl)); (first | refine wcd_T ?_ | refine wcd_F ?_)
    | refine w_skip ?_ | refine w_exit ?_ | refine w_ret ?_
    | fail
    )
        (repeat' first
    | refine w_seq ?_ | refine w_rg ?_ | refine wo_nil ?_ | refine g_skU ?_ | refine g_skT ?_ | refine g_skF ?_
    | ((first | apply s_plain | apply s_void | apply s_guard | apply g_goT | apply g_goF); · simp only [go_sem, Nat.reduceEqDiff, Nat.reduceAdd, Nat.reduceLeDiff, f2, m2]; (first | done | rfl))
    | ((first | apply g_T | apply g_F | apply g_gT | apply g_gF); · intro q1_; (first | intro q2_ | have q2_ := q1_); simp only [go_sem, Nat.reduceEqDiff, Nat.reduceAdd, Nat.reduceLeDiff, f2, m2, q1_, q2_]; (first | done | rfl))
    | (apply w_condX; · simp only [go_sem, Nat.reduceEqDiff, Nat.reduceAdd, Nat.reduceLeDiff, f2, m2]; (first | done | rfl)); (first | refine wcd_T ?_ | refine wcd_F ?_)
    | refine w_skip ?_ | refine w_exit ?_ | refine w_ret ?_
    | fail
    )
        refine ⟨.inr rfl, ?_⟩
        simp only [go_sem, Nat.reduceEqDiff, Nat.reduceAdd, Nat.reduceLeDiff, retOf, resOf, f2, splice, List.take_succ_cons, List.drop_succ_cons, List.modify_zero_cons, List.modify_cons]
        rfl
  · have hc : ((l.length : Int) != 8) = true := by simp; omega
    have hrd : readP l = (emptyR, 6) := by unfold readP; rw [if_neg (fun h => h8 h.1)]
    rw [hrd]
    (repeat' first
    | refine w_seq ?_ | refine w_rg ?_ | refine wo_nil ?_ | refine g_skU ?_ | refine g_skT ?_ | refine g_skF ?_
    | ((first | apply s_plain | apply s_void | apply s_guard | apply g_goT | apply g_goF); · simp only [go_sem, Nat.reduceEqDiff, Nat.reduceAdd, Nat.reduceLeDiff, hll, hc]; (first | done | rfl))
    | ((first | apply g_T | apply g_F | apply g_gT | apply g_gF); · intro q1_; (first | intro q2_ | have q2_ := q1_); simp only [go_sem, Nat.reduceEqDiff, Nat.reduceAdd, Nat.reduceLeDiff, hll, hc, q1_, q2_]; (first | done | rfl))
    | (apply w_condX; · simp only [go_sem, Nat.reduceEqDiff, Nat.reduceAdd, Nat.reduceLeDiff, hll, hc]; (first | done | rfl)); (first | refine wcd_T ?_ | refine wcd_F ?_)
    | refine w_skip ?_ | refine w_exit ?_ | refine w_ret ?_
    | fail
    )
    exact ⟨by first | exact .inr rfl | exact .inr trivial | exact .inl rfl, by simp only [go_sem, Nat.reduceEqDiff, Nat.reduceAdd, Nat.reduceLeDiff, retOf, resOf, rule, emptyR, labs]; first | done | rfl⟩
end

def d233 : Def := (.code 1 [.tmp 2] (.seq (.rg false [⟨.some 2, .none, .mv (.c (.bool false))⟩]) (.seq (.rg false [⟨.some 7, .none, .mv (.t 0)⟩, ⟨.some 8, .none, .mv (.t 0)⟩, ⟨.some 9, .none, .lenS (.t 8)⟩, ⟨.some 10, .none, .mnmx false [.t 9, .c (.int .i64 1500)]⟩, ⟨.some 11, .none, .slcS (.t 7) .none (.some (.t 10))⟩, ⟨.some 0, .none, .mv (.t 11)⟩]) (.seq (.rg false [⟨.some 13, .none, .mv (.t 0)⟩, ⟨.some 14, .none, .call 204 .pure [.t 13]⟩, ⟨.some 12, .none, .mv (.t 14)⟩, ⟨.some 15, .none, .ext (.t 12) 0⟩, ⟨.some 16, .none, .ext (.t 12) 1⟩, ⟨.some 3, .none, .mv (.t 15)⟩, ⟨.some 4, .none, .mv (.t 16)⟩]) (.seq (.rg false [⟨.some 18, .none, .mv (.t 0)⟩, ⟨.some 19, .none, .call 208 .pure [.t 18]⟩, ⟨.some 17, .none, .mv (.t 19)⟩, ⟨.some 20, .none, .ext (.t 17) 0⟩, ⟨.some 21, .none, .ext (.t 17) 1⟩, ⟨.some 5, .none, .mv (.t 20)⟩, ⟨.some 6, .none, .mv (.t 21)⟩]) (.seq (.seq (.rg false [⟨.some 22, .none, .mv (.t 6)⟩, ⟨.some 23, .none, .un .not (.t 22)⟩]) (.cond (.t 23) (.seq (.rg false [⟨.some 24, .none, .call 240 .pure []⟩, ⟨.some 25, .none, .mv (.t 24)⟩, ⟨.some 26, .some (25, true), .mv (.t 4)⟩, ⟨.some 27, .some (25, true), .bin .eql (.t 26) (.c (.int .i64 6))⟩, ⟨.some 28, .none, .pick (.t 25) (.t 27) (.c (.bool false))⟩, ⟨.some 29, .none, .mv (.t 28)⟩, ⟨.some 30, .some (29, true), .mv (.t 3)⟩, ⟨.some 31, .some (29, true), .lenL (.t 30)⟩, ⟨.some 32, .some (29, true), .bin .eql (.t 31) (.c (.int .i64 0))⟩, ⟨.some 33, .none, .pick (.t 29) (.t 32) (.c (.bool false))⟩, ⟨.some 2, .none, .mv (.t 33)⟩]) .ret) .skip)) (.seq (.rg false [⟨.some 34, .none, .call 240 .pure []⟩, ⟨.some 35, .none, .mv (.t 34)⟩, ⟨.some 36, .some (35, true), .mv (.t 4)⟩, ⟨.some 37, .some (35, true), .bin .eql (.t 36) (.c (.int .i64 0))⟩, ⟨.some 38, .none, .pick (.t 35) (.t 37) (.c (.bool false))⟩, ⟨.some 39, .none, .mv (.t 38)⟩, ⟨.some 40, .some (39, true), .mv (.t 3)⟩, ⟨.some 41, .some (39, true), .mv (.t 5)⟩, ⟨.some 42, .some (39, true), .call 192 .pure [.t 40, .t 41]⟩, ⟨.some 43, .none, .pick (.t 39) (.t 42) (.c (.bool false))⟩, ⟨.some 2, .none, .mv (.t 43)⟩]) .ret)))))))
def lcg : List (Nat × Def) := [(233, d233)]
section
variable {env : Nat → Option Def} {fr : Fr} {σ σ' σ'' : St} {K : Fr → St → Prop} {Q : X → Fr → St → Prop} {p : PV} {bs : List UInt8}
theorem cut1500 (l : List UInt8) : (l.take (min l.length 1500)).length ≤ 1500 := by rw [List.length_take]; omega
theorem parseS_len {s : List UInt8} : (parseS s).1.length ≤ 8 := by
  by_cases h : (parseS s).2 = 0
  · have e : parseS s = ((parseS s).1, 0) := by rw [← h]
    exact (right_iff.1 (parse_ok e).1).2.2
  · rw [parse_bad h]; exact Nat.zero_le _
theorem a233 (H : Has la0 env) (G : Has lc env) (L : Has ll0 env) (M : Has lm0 env) (N : Has ln0 env) (P : Has lp env) (U : Has lu env) (C : Has lca env) (D : Has lcb env) (B : Has lbb env) (S : Has lbs env) (T : Has lcc env) (V : Has lcd env) (E : Has lce env) (F : Has lcf env) (R : Has lcg env)
    (hal : AV env 240 [] = some (.sc (.bool true))) (x : ByteArray) : AV env 233 [.sc (.string x)] = some (.sc (.bool true)) := by
  rw [← txt_eta x]
  generalize x.data.toList = l
  have hs := cut1500 l
  have b15 : bound l.length (.sc (.int .i64 (min (l.length : Int) 1500))) = some (min l.length 1500) := bound_min rfl
  have h204 := a204 H G P U C D B S T V (s := l.take (min l.length 1500)) (by omega)
  have h208 := a208 L M U E F (s := l.take (min l.length 1500)) (by omega)
  have hsame := parse_same (l.take (min l.length 1500))
  have hlen := @parseS_len (l.take (min l.length 1500))
  generalize hsq : l.take (min l.length 1500) = s at *
  refine AV_wp (R (233, d233) (by simp [lcg])) rfl ?_
  by_cases h : (parseS s).2 = 0
  · have hz : (parseR s).2 = true := by rw [hsame.1, h]; rfl
    have h192 := a192 N (a := (parseS s).1) (b := (parseR s).1) (by omega)
    rw [show sameL (parseS s).1 (parseR s).1 = true by unfold sameL; exact decide_eq_true (hsame.2 h)] at h192
    rw [hz] at h208
    rw [h] at h204
    (repeat' first
    | refine w_seq ?_ | refine w_rg ?_ | refine wo_nil ?_ | refine g_skU ?_ | refine g_skT ?_ | refine g_skF ?_
    | ((first | apply s_plain | apply s_void | apply s_guard | apply g_goT | apply g_goF); · simp only [go_sem, Nat.reduceEqDiff, Nat.reduceAdd, Nat.reduceLeDiff, mn2, b15, ba_data, ba_size, ba_toList, ba_extract, ba_append, List.toList_toArray, List.drop_zero, hsq, h204, h208]; (first | done | rfl))
    | ((first | apply g_T | apply g_F | apply g_gT | apply g_gF); · intro q1_; (first | intro q2_ | have q2_ := q1_); simp only [go_sem, Nat.reduceEqDiff, Nat.reduceAdd, Nat.reduceLeDiff, mn2, b15, ba_data, ba_size, ba_toList, ba_extract, ba_append, List.toList_toArray, List.drop_zero, hsq, h204, h208, q1_, q2_]; (first | done | rfl))
    | (apply w_condX; · simp only [go_sem, Nat.reduceEqDiff, Nat.reduceAdd, Nat.reduceLeDiff, mn2, b15, ba_data, ba_size, ba_toList, ba_extract, ba_append, List.toList_toArray, List.drop_zero, hsq, h204, h208]; (first | done | rfl)); (first | refine wcd_T ?_ | refine wcd_F ?_)
    | refine w_skip ?_ | refine w_exit ?_ | refine w_ret ?_
    | fail
    )
    (repeat' first
    | refine w_seq ?_ | refine w_rg ?_ | refine wo_nil ?_ | refine g_skU ?_ | refine g_skT ?_ | refine g_skF ?_
    | ((first | apply s_plain | apply s_void | apply s_guard | apply g_goT | apply g_goF); · simp only [go_sem, Nat.reduceEqDiff, Nat.reduceAdd, Nat.reduceLeDiff, hal, h192]; (first | done | rfl))
    | ((first | apply g_T | apply g_F | apply g_gT | apply g_gF); · intro q1_; (first | intro q2_ | have q2_ := q1_); simp only [go_sem, Nat.reduceEqDiff, Nat.reduceAdd, Nat.reduceLeDiff, hal, h192, q1_, q2_]; (first | done | rfl))
    | (apply w_condX; · simp only [go_sem, Nat.reduceEqDiff, Nat.reduceAdd, Nat.reduceLeDiff, hal, h192]; (first | done | rfl)); (first | refine wcd_T ?_ | refine wcd_F ?_)
    | refine w_skip ?_ | refine w_exit ?_ | refine w_ret ?_
    | fail
    )
    exact ⟨by first | exact .inr rfl | exact .inr trivial | exact .inl rfl, by simp only [go_sem, Nat.reduceEqDiff, Nat.reduceAdd, Nat.reduceLeDiff, retOf, resOf]; first | done | rfl⟩
  · have hz : (parseR s).2 = false := by rw [hsame.1]; simpa using h
    rw [hz] at h208
    rw [parse_bad h] at h204
    (repeat' first
    | refine w_seq ?_ | refine w_rg ?_ | refine wo_nil ?_ | refine g_skU ?_ | refine g_skT ?_ | refine g_skF ?_
    | ((first | apply s_plain | apply s_void | apply s_guard | apply g_goT | apply g_goF); · simp only [go_sem, Nat.reduceEqDiff, Nat.reduceAdd, Nat.reduceLeDiff, mn2, b15, ba_data, ba_size, ba_toList, ba_extract, ba_append, List.toList_toArray, List.drop_zero, hsq, h204, h208]; (first | done | rfl))
    | ((first | apply g_T | apply g_F | apply g_gT | apply g_gF); · intro q1_; (first | intro q2_ | have q2_ := q1_); simp only [go_sem, Nat.reduceEqDiff, Nat.reduceAdd, Nat.reduceLeDiff, mn2, b15, ba_data, ba_size, ba_toList, ba_extract, ba_append, List.toList_toArray, List.drop_zero, hsq, h204, h208, q1_, q2_]; (first | done | rfl))
    | (apply w_condX; · simp only [go_sem, Nat.reduceEqDiff, Nat.reduceAdd, Nat.reduceLeDiff, mn2, b15, ba_data, ba_size, ba_toList, ba_extract, ba_append, List.toList_toArray, List.drop_zero, hsq, h204, h208]; (first | done | rfl)); (first | refine wcd_T ?_ | refine wcd_F ?_)
    | refine w_skip ?_ | refine w_exit ?_ | refine w_ret ?_
    | fail
    )
    (repeat' first
    | refine w_seq ?_ | refine w_rg ?_ | refine wo_nil ?_ | refine g_skU ?_ | refine g_skT ?_ | refine g_skF ?_
    | ((first | apply s_plain | apply s_void | apply s_guard | apply g_goT | apply g_goF); · simp only [go_sem, Nat.reduceEqDiff, Nat.reduceAdd, Nat.reduceLeDiff, hal, labs]; (first | done | rfl))
    | ((first | apply g_T | apply g_F | apply g_gT | apply g_gF); · intro q1_; (first | intro q2_ | have q2_ := q1_); simp only [go_sem, Nat.reduceEqDiff, Nat.reduceAdd, Nat.reduceLeDiff, hal, labs, q1_, q2_]; (first | done | rfl))
    | (apply w_condX; · simp only [go_sem, Nat.reduceEqDiff, Nat.reduceAdd, Nat.reduceLeDiff, hal, labs]; (first | done | rfl)); (first | refine wcd_T ?_ | refine wcd_F ?_)
    | refine w_skip ?_ | refine w_exit ?_ | refine w_ret ?_
    | fail
    )
    exact ⟨by first | exact .inr rfl | exact .inr trivial | exact .inl rfl, by simp only [go_sem, Nat.reduceEqDiff, Nat.reduceAdd, Nat.reduceLeDiff, retOf, resOf]; first | done | rfl⟩
theorem text_len {l : List Lab} (h : rightL l = true) : (textS l).data.toList.length ≤ 2000 := by
  have h8 := (right_iff.1 h).2.2
  have hp := preT_len (ab_size h) h8 l.length
  have e : (textS l).data.toList = preT l l.length ++ [125] := by
    unfold textS bodyS preT
    simp [ByteArray.data_append]
  rw [e, List.length_append]
  simp only [List.length_cons, List.length_nil]
  omega
end

def d186 : Def := (.code 2 [.tmp 4] (.seq (.rg false [⟨.some 2, .none, .box (.t 0)⟩, ⟨.some 4, .none, .mv (.c (.bool false))⟩]) (.seq (.rg false [⟨.some 13, .none, .ld (.some 8) (.t 2)⟩, ⟨.some 14, .none, .call 104 .pure [.t 13]⟩, ⟨.some 15, .none, .mv (.t 1)⟩, ⟨.some 16, .none, .call 194 .pure [.t 15]⟩, ⟨.none, .none, .st 8 (.t 2) (.t 14)⟩, ⟨.some 1, .none, .mv (.t 16)⟩]) (.seq (.seq (.rg false [⟨.some 18, .none, .ld (.some 8) (.t 2)⟩, ⟨.some 19, .none, .call 193 .pure [.t 18]⟩, ⟨.some 17, .none, .mv (.t 19)⟩, ⟨.some 20, .none, .ext (.t 17) 0⟩, ⟨.some 21, .none, .ext (.t 17) 1⟩, ⟨.some 5, .none, .mv (.t 20)⟩, ⟨.some 6, .none, .mv (.t 21)⟩]) (.seq (.rg false [⟨.some 22, .none, .mv (.t 6)⟩, ⟨.some 23, .none, .bin .eql (.t 22) (.c (.int .i64 0))⟩]) (.cond (.t 23) (.seq (.rg false [⟨.some 25, .none, .mv (.t 5)⟩, ⟨.some 26, .none, .call 195 .pure [.t 25]⟩, ⟨.some 24, .none, .mv (.t 26)⟩, ⟨.some 27, .none, .ext (.t 24) 0⟩, ⟨.some 28, .none, .ext (.t 24) 1⟩, ⟨.some 7, .none, .box (.c (.agg #[.string ⟨#[]⟩, .string ⟨#[]⟩, .int .i64 0, .int .i64 0, .int .i64 0, .int .i64 0, .int .i64 0, .slice .none 0 0]))⟩, ⟨.none, .none, .st 8 (.t 7) (.t 27)⟩, ⟨.some 8, .none, .mv (.t 28)⟩]) (.seq (.rg false [⟨.some 29, .none, .mv (.t 8)⟩, ⟨.some 30, .none, .bin .neq (.t 29) (.c (.int .i64 0))⟩, ⟨.some 31, .none, .mv (.t 30)⟩, ⟨.some 32, .some (31, false), .ld (.some 8) (.t 7)⟩, ⟨.some 33, .some (31, false), .ld (.some 8) (.t 2)⟩, ⟨.some 34, .some (31, false), .call 188 .pure [.t 32, .t 33]⟩, ⟨.some 35, .some (31, false), .un .not (.t 34)⟩, ⟨.some 36, .none, .pick (.t 31) (.c (.bool true)) (.t 35)⟩]) (.cond (.t 36) (.seq (.rg false [⟨.some 4, .none, .mv (.c (.bool false))⟩]) .ret) .skip))) .skip))) (.seq (.rg false [⟨.some 38, .none, .mv (.t 1)⟩, ⟨.some 39, .none, .call 195 .pure [.t 38]⟩, ⟨.some 37, .none, .mv (.t 39)⟩, ⟨.some 40, .none, .ext (.t 37) 0⟩, ⟨.some 41, .none, .ext (.t 37) 1⟩, ⟨.some 9, .none, .box (.c (.agg #[.string ⟨#[]⟩, .string ⟨#[]⟩, .int .i64 0, .int .i64 0, .int .i64 0, .int .i64 0, .int .i64 0, .slice .none 0 0]))⟩, ⟨.none, .none, .st 8 (.t 9) (.t 40)⟩, ⟨.some 10, .none, .mv (.t 41)⟩]) (.seq (.seq (.rg false [⟨.some 42, .none, .mv (.t 10)⟩, ⟨.some 43, .none, .bin .neq (.t 42) (.c (.int .i64 0))⟩]) (.cond (.t 43) (.seq (.rg false [⟨.some 44, .none, .call 106 .pure []⟩, ⟨.some 45, .none, .mv (.t 44)⟩, ⟨.some 46, .some (45, true), .ld (.some 8) (.t 9)⟩, ⟨.some 47, .some (45, true), .call 105 .pure [.t 46]⟩, ⟨.some 48, .some (45, true), .un .not (.t 47)⟩, ⟨.some 49, .none, .pick (.t 45) (.t 48) (.c (.bool false))⟩, ⟨.some 4, .none, .mv (.t 49)⟩]) .ret) .skip)) (.seq (.rg false [⟨.some 51, .none, .ld (.some 8) (.t 9)⟩, ⟨.some 52, .none, .call 193 .pure [.t 51]⟩, ⟨.some 50, .none, .mv (.t 52)⟩, ⟨.some 53, .none, .ext (.t 50) 0⟩, ⟨.some 54, .none, .ext (.t 50) 1⟩, ⟨.some 11, .none, .mv (.t 53)⟩, ⟨.some 12, .none, .mv (.t 54)⟩]) (.seq (.rg false [⟨.some 55, .none, .call 106 .pure []⟩, ⟨.some 56, .none, .mv (.t 55)⟩, ⟨.some 57, .some (56, true), .mv (.t 12)⟩, ⟨.some 58, .some (56, true), .bin .eql (.t 57) (.c (.int .i64 0))⟩, ⟨.some 59, .none, .pick (.t 56) (.t 58) (.c (.bool false))⟩, ⟨.some 60, .none, .mv (.t 59)⟩, ⟨.some 61, .some (60, true), .mv (.t 11)⟩, ⟨.some 62, .some (60, true), .mv (.t 1)⟩, ⟨.some 63, .some (60, true), .call 36 .pure [.t 61, .t 62]⟩, ⟨.some 64, .none, .pick (.t 60) (.t 63) (.c (.bool false))⟩, ⟨.some 4, .none, .mv (.t 64)⟩]) .ret))))))))
def lhh : List (Nat × Def) := [(186, d186)]
section
variable {env : Nat → Option Def} {fr : Fr} {σ σ' σ'' : St} {K : Fr → St → Prop} {Q : X → Fr → St → Prop} {p : PV} {bs : List UInt8}
theorem itoa_size {n : Int} (h : -1099511627776 ≤ n ∧ n ≤ 1099511627776) : (itoaS n).size ≤ 9000000000000000000 := by
  show (Lib.itoa n).length ≤ _
  unfold Lib.itoa
  split
  all_goals
    have := dec_len (u := n.natAbs) (by omega)
    have := dec_len (u := n.toNat) (by omega)
    try simp only [List.length_cons]
    omega
theorem words_size {r : Rule} (p : RightR r) (hn : r.name.size ≤ 1000) (hm : r.metric.size ≤ 1000) : (∀ s ∈ wordsR r, s.size ≤ 9000000000000000000) ∧ ∀ q, (wordsR r)[7]? = some q → q.size ≤ 4000000000 := by
  have ht : (textS r.labels).size ≤ 2000 := text_len p.labels
  constructor
  · intro s hs
    simp only [wordsR, List.mem_cons, List.not_mem_nil, or_false] at hs
    rcases hs with rfl | rfl | rfl | rfl | rfl | rfl | rfl | rfl
    · omega
    · omega
    · unfold signT
      repeat' split
      all_goals decide
    · exact itoa_size p.limit
    · exact itoa_size p.for_
    · exact itoa_size p.keep
    · exact itoa_size p.tries
    · omega
  · intro q hq
    simp only [wordsR, List.getElem?_cons_succ, List.getElem?_cons_zero, Option.some.injEq] at hq
    subst hq
    omega
theorem cutS_size (n : Nat) (s : ByteArray) : (cutS n s).size ≤ n := by
  unfold cutS
  rw [ByteArray.size_extract]; omega
theorem readP_fits {l : List ByteArray} (hs : ∀ s ∈ l, s.size ≤ 1000) : (readP l).1.Fits := by
  unfold readP
  split
  · rename_i h
    have hl := list8 h.1
    obtain ⟨hp8, hps⟩ := parseS_held (l.getD 7 ⟨#[]⟩).data.toList
    have h0 : (l.getD 0 ⟨#[]⟩) ∈ l := by rw [List.getD_eq_getElem?_getD, List.getElem?_eq_getElem (by omega)]; exact List.getElem_mem _
    have h1 : (l.getD 1 ⟨#[]⟩) ∈ l := by rw [List.getD_eq_getElem?_getD, List.getElem?_eq_getElem (by omega)]; exact List.getElem_mem _
    exact ⟨small_of (hs _ h0) (by decide), small_of (hs _ h1) (by decide), (by show (parseS _).1.length ≤ _; omega), fun m hm => ⟨small_of (hps m hm).1 (by decide), small_of (hps m hm).2 (by decide)⟩⟩
  · exact ⟨small_of (n := 0) (by decide) (by decide), small_of (n := 0) (by decide) (by decide), Nat.zero_le _, fun m hm => by simp [emptyR] at hm⟩
theorem empty_right : rightR emptyR = false := by
  unfold rightR
  simp [emptyR]
theorem a186 (H : Has la env) (G : Has lc env) (F : Has lf env) (I : Has lg env) (J : Has li env) (P : Has lp env) (U : Has lu env) (A : Has lha env) (W : Has lhb env) (C : Has lhc env) (D5 : Has lhe env) (D6 : Has lhd env) (E : Has lhg env) (N : Has ln env) (T : Has lhh env)
    (h204 : ∀ s : List UInt8, s.length ≤ 4000000000 → AV env 204 [txt s] = some (.tu [.sl (labs (parseS s).1), .sc (.int .i64 (parseS s).2)]))
    (hal : AV env 106 [] = some (.sc (.bool true))) {x : Rule} (hx : x.labels.length ≤ 9223372036854775807) {ls : List ByteArray} (hls : ls.length ≤ 9223372036854775807) : AV env 186 [rule x, .sl (strs ls)] = some (.sc (.bool true)) := by
  have h1 := a104 J hx
  have f1 := cutR_fits x
  have z1 : (cutR x).name.size ≤ 1000 := Nat.le_trans (cutS_size 70 _) (by decide)
  have z2 : (cutR x).metric.size ≤ 1000 := Nat.le_trans (cutS_size 70 _) (by decide)
  generalize cutR x = a at h1 f1 z1 z2
  have h2 := a194 C hls
  have k2 : (cutT ls).length ≤ 10 := by rw [cutT_len]; omega
  have s2 := cutT_size ls
  generalize cutT ls = w at h2 k2 s2
  have w1 := a193 H G F I P U A W f1
  have hrd := a195 H G F I P U A W C D5 E h204 (l := w) (by omega) (fun s hs => by have := s2 s hs; omega) (fun q hq => by have := s2 q (List.mem_of_getElem? hq); omega)
  have hlk := a188 N (a := a) (b := a) f1.l
  rw [likeR_refl] at hlk
  have hwn := strs_len w
  refine AV_wp (T (186, d186) (by simp [lhh])) rfl ?_
  unfold rule at h1 w1 hlk ⊢
  (repeat' first
    | refine w_seq ?_ | refine w_rg ?_ | refine wo_nil ?_ | refine g_skU ?_ | refine g_skT ?_ | refine g_skF ?_
    | ((first | apply s_plain | apply s_void | apply s_guard | apply g_goT | apply g_goF); · simp only [go_sem, Nat.reduceEqDiff, Nat.reduceAdd, Nat.reduceLeDiff, h1, h2]; (first | done | rfl))
    | ((first | apply g_T | apply g_F | apply g_gT | apply g_gF); · intro q1_; (first | intro q2_ | have q2_ := q1_); simp only [go_sem, Nat.reduceEqDiff, Nat.reduceAdd, Nat.reduceLeDiff, h1, h2, q1_, q2_]; (first | done | rfl))
    | fail
    )
  generalize hws : strs (if rightR a = true then wordsR a else []) = ws at w1
  generalize hec : (if rightR a = true then (0 : Int) else 1) = ec at w1
  (repeat' first
    | refine w_seq ?_ | refine w_rg ?_ | refine wo_nil ?_ | refine g_skU ?_ | refine g_skT ?_ | refine g_skF ?_
    | ((first | apply s_plain | apply s_void | apply s_guard | apply g_goT | apply g_goF); · simp only [go_sem, Nat.reduceEqDiff, Nat.reduceAdd, Nat.reduceLeDiff, w1]; (first | done | rfl))
    | ((first | apply g_T | apply g_F | apply g_gT | apply g_gF); · intro q1_; (first | intro q2_ | have q2_ := q1_); simp only [go_sem, Nat.reduceEqDiff, Nat.reduceAdd, Nat.reduceLeDiff, w1, q1_, q2_]; (first | done | rfl))
    | fail
    )
  refine Wp.mono (Q := fun x fr τ => x = .normal ∧ fr 1 = .sl (strs w) ∧ τ.c 2000009 = 0) ?_ ?_
  · cases ra : rightR a with
    | false =>
      rw [ra] at hws hec
      simp only [if_false, Bool.false_eq_true] at hws hec
      subst hec
      (repeat' first
    | refine w_seq ?_ | refine w_rg ?_ | refine wo_nil ?_ | refine g_skU ?_ | refine g_skT ?_ | refine g_skF ?_
    | ((first | apply s_plain | apply s_void | apply s_guard | apply g_goT | apply g_goF); · simp only [go_sem, Nat.reduceEqDiff, Nat.reduceAdd, Nat.reduceLeDiff, show ((1 : Int) == 0) = false from rfl]; (first | done | rfl))
    | ((first | apply g_T | apply g_F | apply g_gT | apply g_gF); · intro q1_; (first | intro q2_ | have q2_ := q1_); simp only [go_sem, Nat.reduceEqDiff, Nat.reduceAdd, Nat.reduceLeDiff, show ((1 : Int) == 0) = false from rfl, q1_, q2_]; (first | done | rfl))
    | (apply w_condX; · simp only [go_sem, Nat.reduceEqDiff, Nat.reduceAdd, Nat.reduceLeDiff, show ((1 : Int) == 0) = false from rfl]; (first | done | rfl)); (first | refine wcd_T ?_ | refine wcd_F ?_)
    | refine w_skip ?_ | refine w_exit ?_ | refine w_ret ?_
    | fail
    )
      exact ⟨rfl, by simp only [go_sem, Nat.reduceEqDiff, Nat.reduceAdd, Nat.reduceLeDiff], by simp only [go_sem, Nat.reduceEqDiff, Nat.reduceAdd, Nat.reduceLeDiff]⟩
    | true =>
      rw [ra] at hws hec
      simp only [if_true] at hws hec
      subst hec hws
      have hsz := words_size (right_parts ra) z1 z2
      have hra := a195 H G F I P U A W C D5 E h204 (l := wordsR a) (by simp [wordsR]) hsz.1 hsz.2
      rw [readP_words ra] at hra
      simp only [rule] at hra
      (repeat' first
    | refine w_seq ?_ | refine w_rg ?_ | refine wo_nil ?_ | refine g_skU ?_ | refine g_skT ?_ | refine g_skF ?_
    | ((first | apply s_plain | apply s_void | apply s_guard | apply g_goT | apply g_goF); · simp only [go_sem, Nat.reduceEqDiff, Nat.reduceAdd, Nat.reduceLeDiff, show ((0 : Int) == 0) = true from rfl]; (first | done | rfl))
    | ((first | apply g_T | apply g_F | apply g_gT | apply g_gF); · intro q1_; (first | intro q2_ | have q2_ := q1_); simp only [go_sem, Nat.reduceEqDiff, Nat.reduceAdd, Nat.reduceLeDiff, show ((0 : Int) == 0) = true from rfl, q1_, q2_]; (first | done | rfl))
    | (apply w_condX; · simp only [go_sem, Nat.reduceEqDiff, Nat.reduceAdd, Nat.reduceLeDiff, show ((0 : Int) == 0) = true from rfl]; (first | done | rfl)); (first | refine wcd_T ?_ | refine wcd_F ?_)
    | refine w_skip ?_ | refine w_exit ?_ | refine w_ret ?_
    | fail
    )
      (repeat' first
    | refine w_seq ?_ | refine w_rg ?_ | refine wo_nil ?_ | refine g_skU ?_ | refine g_skT ?_ | refine g_skF ?_
    | ((first | apply s_plain | apply s_void | apply s_guard | apply g_goT | apply g_goF); · simp only [go_sem, Nat.reduceEqDiff, Nat.reduceAdd, Nat.reduceLeDiff, hra]; (first | done | rfl))
    | ((first | apply g_T | apply g_F | apply g_gT | apply g_gF); · intro q1_; (first | intro q2_ | have q2_ := q1_); simp only [go_sem, Nat.reduceEqDiff, Nat.reduceAdd, Nat.reduceLeDiff, hra, q1_, q2_]; (first | done | rfl))
    | fail
    )
      (repeat' first
    | refine w_seq ?_ | refine w_rg ?_ | refine wo_nil ?_ | refine g_skU ?_ | refine g_skT ?_ | refine g_skF ?_
    | ((first | apply s_plain | apply s_void | apply s_guard | apply g_goT | apply g_goF); · simp only [go_sem, Nat.reduceEqDiff, Nat.reduceAdd, Nat.reduceLeDiff, bne_self_eq_false, hlk]; (first | done | rfl))
    | ((first | apply g_T | apply g_F | apply g_gT | apply g_gF); · intro q1_; (first | intro q2_ | have q2_ := q1_); simp only [go_sem, Nat.reduceEqDiff, Nat.reduceAdd, Nat.reduceLeDiff, bne_self_eq_false, hlk, q1_, q2_]; (first | done | rfl))
    | (apply w_condX; · simp only [go_sem, Nat.reduceEqDiff, Nat.reduceAdd, Nat.reduceLeDiff, bne_self_eq_false, hlk]; (first | done | rfl)); (first | refine wcd_T ?_ | refine wcd_F ?_)
    | refine w_skip ?_ | refine w_exit ?_ | refine w_ret ?_
    | fail
    )
      exact ⟨rfl, by simp only [go_sem, Nat.reduceEqDiff, Nat.reduceAdd, Nat.reduceLeDiff], by simp only [go_sem, Nat.reduceEqDiff, Nat.reduceAdd, Nat.reduceLeDiff]⟩
  · rintro x fr τ ⟨rfl, g1, c9⟩
    have hfit := readP_fits (l := w) (fun s hs => by have := s2 s hs; omega)
    have hok := @readP_ok w
    have hbad := @readP_bad w
    rcases hq : readP w with ⟨R, e⟩
    rw [hq] at hrd hfit hok hbad
    simp only at hrd hfit hok hbad
    by_cases he : e = 0
    · subst he
      obtain ⟨hR, hw⟩ := hok rfl
      have w3 := a193 H G F I P U A W hfit
      rw [hR] at w3
      simp only [if_true, hw] at w3
      have h36 := a36 D6 (a := w) (b := w) (by omega)
      rw [decide_eq_true rfl] at h36
      simp only [rule] at hrd w3
      (repeat' first
    | refine w_seq ?_ | refine w_rg ?_ | refine wo_nil ?_ | refine g_skU ?_ | refine g_skT ?_ | refine g_skF ?_
    | ((first | apply s_plain | apply s_void | apply s_guard | apply g_goT | apply g_goF); · simp only [go_sem, Nat.reduceEqDiff, Nat.reduceAdd, Nat.reduceLeDiff, g1, hrd, c9]; (first | done | rfl))
    | ((first | apply g_T | apply g_F | apply g_gT | apply g_gF); · intro q1_; (first | intro q2_ | have q2_ := q1_); simp only [go_sem, Nat.reduceEqDiff, Nat.reduceAdd, Nat.reduceLeDiff, g1, hrd, c9, q1_, q2_]; (first | done | rfl))
    | fail
    )
      (repeat' first
    | refine w_seq ?_ | refine w_rg ?_ | refine wo_nil ?_ | refine g_skU ?_ | refine g_skT ?_ | refine g_skF ?_
    | ((first | apply s_plain | apply s_void | apply s_guard | apply g_goT | apply g_goF); · simp only [go_sem, Nat.reduceEqDiff, Nat.reduceAdd, Nat.reduceLeDiff, bne_self_eq_false]; (first | done | rfl))
    | ((first | apply g_T | apply g_F | apply g_gT | apply g_gF); · intro q1_; (first | intro q2_ | have q2_ := q1_); simp only [go_sem, Nat.reduceEqDiff, Nat.reduceAdd, Nat.reduceLeDiff, bne_self_eq_false, q1_, q2_]; (first | done | rfl))
    | (apply w_condX; · simp only [go_sem, Nat.reduceEqDiff, Nat.reduceAdd, Nat.reduceLeDiff, bne_self_eq_false]; (first | done | rfl)); (first | refine wcd_T ?_ | refine wcd_F ?_)
    | refine w_skip ?_ | refine w_exit ?_ | refine w_ret ?_
    | fail
    )
      (repeat' first
    | refine w_seq ?_ | refine w_rg ?_ | refine wo_nil ?_ | refine g_skU ?_ | refine g_skT ?_ | refine g_skF ?_
    | ((first | apply s_plain | apply s_void | apply s_guard | apply g_goT | apply g_goF); · simp only [go_sem, Nat.reduceEqDiff, Nat.reduceAdd, Nat.reduceLeDiff, w3]; (first | done | rfl))
    | ((first | apply g_T | apply g_F | apply g_gT | apply g_gF); · intro q1_; (first | intro q2_ | have q2_ := q1_); simp only [go_sem, Nat.reduceEqDiff, Nat.reduceAdd, Nat.reduceLeDiff, w3, q1_, q2_]; (first | done | rfl))
    | fail
    )
      (repeat' first
    | refine w_seq ?_ | refine w_rg ?_ | refine wo_nil ?_ | refine g_skU ?_ | refine g_skT ?_ | refine g_skF ?_
    | ((first | apply s_plain | apply s_void | apply s_guard | apply g_goT | apply g_goF); · simp only [go_sem, Nat.reduceEqDiff, Nat.reduceAdd, Nat.reduceLeDiff, hal, h36, beq_self_eq_true, g1]; (first | done | rfl))
    | ((first | apply g_T | apply g_F | apply g_gT | apply g_gF); · intro q1_; (first | intro q2_ | have q2_ := q1_); simp only [go_sem, Nat.reduceEqDiff, Nat.reduceAdd, Nat.reduceLeDiff, hal, h36, beq_self_eq_true, g1, q1_, q2_]; (first | done | rfl))
    | (apply w_condX; · simp only [go_sem, Nat.reduceEqDiff, Nat.reduceAdd, Nat.reduceLeDiff, hal, h36, beq_self_eq_true, g1]; (first | done | rfl)); (first | refine wcd_T ?_ | refine wcd_F ?_)
    | refine w_skip ?_ | refine w_exit ?_ | refine w_ret ?_
    | fail
    )
      exact ⟨by first | exact .inr rfl | exact .inr trivial | exact .inl rfl, by simp only [go_sem, Nat.reduceEqDiff, Nat.reduceAdd, Nat.reduceLeDiff, retOf, resOf]; first | done | rfl⟩
    · have hb := hbad he
      simp only [Prod.mk.injEq] at hb
      obtain ⟨rfl, rfl⟩ := hb
      have h105 := a105 H G F I hfit
      rw [empty_right] at h105
      simp only [rule, emptyR, labs, List.map_nil] at hrd h105
      (repeat' first
    | refine w_seq ?_ | refine w_rg ?_ | refine wo_nil ?_ | refine g_skU ?_ | refine g_skT ?_ | refine g_skF ?_
    | ((first | apply s_plain | apply s_void | apply s_guard | apply g_goT | apply g_goF); · simp only [go_sem, Nat.reduceEqDiff, Nat.reduceAdd, Nat.reduceLeDiff, g1, hrd, c9]; (first | done | rfl))
    | ((first | apply g_T | apply g_F | apply g_gT | apply g_gF); · intro q1_; (first | intro q2_ | have q2_ := q1_); simp only [go_sem, Nat.reduceEqDiff, Nat.reduceAdd, Nat.reduceLeDiff, g1, hrd, c9, q1_, q2_]; (first | done | rfl))
    | fail
    )
      (repeat' first
    | refine w_seq ?_ | refine w_rg ?_ | refine wo_nil ?_ | refine g_skU ?_ | refine g_skT ?_ | refine g_skF ?_
    | ((first | apply s_plain | apply s_void | apply s_guard | apply g_goT | apply g_goF); · simp only [go_sem, Nat.reduceEqDiff, Nat.reduceAdd, Nat.reduceLeDiff, show ((6 : Int) != 0) = true from rfl, hal, h105]; (first | done | rfl))
    | ((first | apply g_T | apply g_F | apply g_gT | apply g_gF); · intro q1_; (first | intro q2_ | have q2_ := q1_); simp only [go_sem, Nat.reduceEqDiff, Nat.reduceAdd, Nat.reduceLeDiff, show ((6 : Int) != 0) = true from rfl, hal, h105, q1_, q2_]; (first | done | rfl))
    | (apply w_condX; · simp only [go_sem, Nat.reduceEqDiff, Nat.reduceAdd, Nat.reduceLeDiff, show ((6 : Int) != 0) = true from rfl, hal, h105]; (first | done | rfl)); (first | refine wcd_T ?_ | refine wcd_F ?_)
    | refine w_skip ?_ | refine w_exit ?_ | refine w_ret ?_
    | fail
    )
      exact ⟨by first | exact .inr rfl | exact .inr trivial | exact .inl rfl, by simp only [go_sem, Nat.reduceEqDiff, Nat.reduceAdd, Nat.reduceLeDiff, retOf, resOf]; first | done | rfl⟩
end

section
variable {P : Program}
def fieldsOf (P : Program) (t : TypeId) : List (Nat × TypeId) := match P.underlying t with
  | some (.struct fs) => fs.toList.map fun f => (f.offset, f.type)
  | _ => []
theorem Is.fields {t : TypeId} {ps : List PV} (h : Is P t ps) (ha : isAgg P t = true) : ps.length = P.cellsOf t ∧ ∀ q ∈ fieldsOf P t, Is P q.2 ((ps.drop q.1).take (P.cellsOf q.2)) := by
  unfold isAgg at ha
  split at ha
  · rename_i fs hu
    obtain ⟨h1, h2⟩ := h.st' hu
    refine ⟨h1, fun q hq => ?_⟩
    simp only [fieldsOf, hu, List.mem_map] at hq
    obtain ⟨f, hf, rfl⟩ := hq
    obtain ⟨i, hi⟩ := List.getElem?_of_mem hf
    exact h2 i f (by simpa using hi)
  · cases ha
theorem str_of {t : TypeId} {p : PV} (h : Is P t [p]) (hk : (match P.underlying t with | some .string => true | _ => false) = true) : ∃ s : ByteArray, p = .sc (.string s) ∧ s.size ≤ reachBytes := by
  split at hk
  · rename_i hu
    obtain ⟨s, hs, h2⟩ := h.str' hu
    simp only [List.cons.injEq, and_true] at hs
    exact ⟨s, hs, h2⟩
  · cases hk
theorem returns_and_shapedZ {H : Type} {enc : TypeId × Value → H} {a : Assume} {C : Checked} {os : Os} {f : FuncId} {fn : Func} {s : ChangeSpec} {conds : List PathCond} {apart fresh handsOn again : Bool} {Z : World → Array Value → Prop}
    (hZ : ∀ (w w' : World) (args : Array Value), w.heap = w'.heap → Z w args → Z w' args)
    (own : ownKnob C.prog.godebug = none) (started : os.Started) (noInit : C.prog.inits.idxOf? f = none) (hfn : C.prog.funcs[f]? = some fn)
    (witness : ∃ (w : World) (tape : Tape) (i : Input), w.os = os ∧ (w.forCall tape i).Shaped C.prog ∧ i.vars = [] ∧ Input.okWide C.prog (w.forCall tape i) .any w.heap.size f i ∧
      ((s.pre enc C.prog fn conds apart (w.forCall tape i).memory i.args ∧ Z (w.forCall tape i).memory i.args) ∧ sizedMet enc C.prog fn (OpenSpec.ofChange s) apart (w.forCall tape i).memory i.args) ∧ a.holds C.prog (lone (Frame.enter C.prog f i.args .normal) [] (w.forCall tape i)))
    (contract : ∀ (W : World) (base : Nat) (args : Array Value) (ds gs : List (DataW H)) (before : List MemPlace),
      (∀ (j : Nat) t v, fn.params[j]? = some t → args[j]? = some v → Value.okWide C.prog W .any base t v) →
      DataW.Whole enc C.prog fn.params.toList s.vars apart W args.toList ds gs before →
      conds.all (PathCond.test C.prog ⟨fn.params.toList, ds, s.plain.varTypes C.prog, gs⟩) = true →
      (DataW.weightsEach C.prog (fn.params.toList ++ s.plain.varTypes C.prog) (ds ++ gs)).all (· ≤ reachBytes) = true → W.ShapedOpen C.prog → Z W args →
      Calls C.prog f args W fun e W' => ∃ v, e = .returned v ∧ s.post enc C.prog fn apart fresh handsOn again W args v W') :
    ReturnsInHanded a C os f .any (fun w args => (s.pre enc C.prog fn conds apart w args ∧ Z w args) ∧ sizedMet enc C.prog fn (OpenSpec.ofChange s) apart w args) (s.post enc C.prog fn apart fresh handsOn again) := by
  refine returnsInHanded_of_calls own started noInit witness ?_
  intro w tape i _ hsh _ hok hpre _
  obtain ⟨_, _, _, fn', hfn', _, _, _, _, hval⟩ := hok
  have e : fn' = fn := Option.some.inj (hfn'.symm.trans hfn)
  subst e
  obtain ⟨⟨⟨ds, gs, before, hw, hc⟩, hzz⟩, hz⟩ := hpre
  have hw' := DataW.Whole.of_heap (w' := w.forCall tape i) (by rfl) hw
  refine (contract (w.forCall tape i) w.heap.size i.args ds gs before hval hw' hc (hz.weights hw) hsh (hZ (w.forCall tape i).memory (w.forCall tape i) i.args rfl hzz)).mono fun e W' ⟨v, he, hp⟩ => ?_
  subst he
  exact ChangeSpec.post_blind hp
end

end Go.Proofs.YtckcgppnppiccaaGreatDoorPv
