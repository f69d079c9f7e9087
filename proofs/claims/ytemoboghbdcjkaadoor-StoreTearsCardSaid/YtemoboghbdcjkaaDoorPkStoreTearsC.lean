/-
Own texts of the proof, merged: part 3.
-/
import Derived.Test.YtemoboghbdcjkaaDoorPkStoreTearsB
import Derived.Test.YtemoboghbdcjkaaDoorPvL
import Derived.HandedShaped
namespace Go.Proofs.YtemoboghbdcjkaaDoorPv
open Go
set_option linter.unusedSimpArgs false
set_option linter.unusedVariables false
set_option maxHeartbeats 4000000
set_option maxRecDepth 8000
section
attribute [local go_sem ↓] e_mv e_pick e_bin e_eqs e_beq e_un e_cvi e_str e_s2b e_b2s e_box e_build e_bsl e_ld e_st e_nck e_mkf e_slcS e_slcL e_fa e_fld e_ia e_iaa e_ix e_ixa e_ext e_lenS e_lenL e_mnmx e_app e_appb e_bbx e_msl e_clr e_call e_callv e_icall e_slcA e_mkm e_mput e_mget e_mlen e_mdel pa_t pa_c pa_f slcSP_str hiOf_some hiOf_none loOf_some loOf_none set_eq set_ne
attribute [local go_sem] pv pv1 simple frOf_0 frOf_1 frOf_2 frOf_3 frOf_4 frOf_5 ne_eq not_false_eq_true if_true Bool.false_eq_true if_false pbin punary Option.map_some Option.bind_some pick_and pick_or opt_true Bool.true_and Bool.and_self Bool.and_true Bool.true_or Bool.false_or Bool.not_true Bool.not_false callE pcall_eq List.map_cons List.map_nil List.append_nil List.nil_append List.cons_append mapM_cons' mapM_nil' dep_eq fz_sc fz_sl fz_em fz_fn fz_fp fz_agg fz_tu fz_bx fz_ob Nat.lt_irrefl Nat.zero_lt_one Nat.lt_add_one flat clL cl Bool.or_true okc_sc okc_em okc_sl okc_ob okc_bx okc_fp okc_fn okc_agg okc_ifc cells_agg cells_sc cells_sl cells_em cells_ob cells_fn cells_bx cells_fp List.length_cons List.length_nil Nat.zero_add and_self true_and and_true new_m new_c put_m put_c nil_m nil_c nil_mm new_mm put_mm newM_m newM_c newM_mm putM_m putM_c putM_mm mkeyV_1 mkeyV_2 mapAt_eq deref List.getElem?_cons_zero List.getElem?_cons_succ List.drop_zero List.drop_succ_cons List.take_succ_cons List.take_zero Nat.le_refl false_and and_false decide_true decide_false lenP_em lenP_nil lenP_sl lenP_ob Int.ofNat_zero splice fillP fillE List.modify_zero_cons List.replicate_succ List.replicate_zero List.set_cons_zero List.drop_zero ba_data ba_size ba_toList ba_extract ba_append List.toList_toArray
def d250 : Def := (.code 4 [.tmp 8] (.seq (.rg false [⟨.some 8, .none, .mv (.c (.bool false))⟩]) (.seq (.rg false [⟨.some 9, .none, .box (.c (.agg #[.slice .none 0 0]))⟩]) (.seq (.rg false [⟨.some 10, .none, .mv (.c (.slice .none 0 0))⟩]) (.seq (.rg false [⟨.some 11, .none, .mv (.c (.int .i64 0))⟩]) (.seq (.seq (.rg false [⟨.some 29, .none, .mv (.t 0)⟩, ⟨.some 30, .none, .lenL (.t 29)⟩, ⟨.some 31, .none, .mv (.c (.int .i64 0))⟩]) (.block 0 (.loop (.seq (.rg false [⟨.some 32, .none, .bin .lss (.t 31) (.t 30)⟩]) (.seq (.cond (.t 32) .skip (.exit 0)) (.seq (.block 1 (.seq (.rg false [⟨.some 33, .none, .mv (.t 31)⟩, ⟨.some 34, .none, .ia 1 (.t 29) (.t 31)⟩, ⟨.some 35, .none, .ld .none (.t 34)⟩, ⟨.some 12, .none, .mv (.t 33)⟩, ⟨.some 13, .none, .mv (.t 35)⟩]) (.seq (.seq (.rg false [⟨.some 36, .none, .mv (.t 12)⟩, ⟨.some 37, .none, .bin .geq (.t 36) (.c (.int .i64 12))⟩]) (.cond (.t 37) (.exit 0) .skip)) (.seq (.rg false [⟨.some 39, .none, .mv (.t 13)⟩, ⟨.some 40, .none, .mv (.t 13)⟩, ⟨.some 41, .none, .lenS (.t 40)⟩, ⟨.some 42, .none, .mnmx false [.t 41, .c (.int .i64 100)]⟩, ⟨.some 43, .none, .slcS (.t 39) .none (.some (.t 42))⟩, ⟨.some 44, .none, .call 261 .pure [.t 43]⟩, ⟨.some 38, .none, .mv (.t 44)⟩, ⟨.some 45, .none, .ext (.t 38) 0⟩, ⟨.some 46, .none, .ext (.t 38) 1⟩, ⟨.some 14, .none, .mv (.t 45)⟩, ⟨.some 15, .none, .mv (.t 46)⟩]) (.seq (.rg false [⟨.some 48, .none, .ld (.some 1) (.t 9)⟩, ⟨.some 49, .none, .mv (.t 14)⟩, ⟨.some 50, .none, .build (.agg #[.int .i64 0, .string ⟨#[]⟩, .string ⟨#[]⟩]) [(0, (1, .c (.int .i64 1))), (1, (1, .c (.string ⟨#[108, 111, 103]⟩))), (2, (1, .t 49))]⟩, ⟨.some 51, .none, .call 255 .pure [.t 48, .t 50]⟩, ⟨.some 47, .none, .mv (.t 51)⟩, ⟨.some 52, .none, .ext (.t 47) 0⟩, ⟨.some 53, .none, .ext (.t 47) 1⟩, ⟨.some 16, .none, .box (.c (.agg #[.slice .none 0 0]))⟩, ⟨.none, .none, .st 1 (.t 16) (.t 52)⟩, ⟨.some 17, .none, .mv (.t 53)⟩]) (.seq (.seq (.rg false [⟨.some 54, .none, .mv (.t 15)⟩, ⟨.some 55, .none, .bin .neq (.t 54) (.c (.int .i64 0))⟩, ⟨.some 56, .none, .mv (.t 55)⟩, ⟨.some 57, .some (56, false), .mv (.t 17)⟩, ⟨.some 58, .some (56, false), .bin .neq (.t 57) (.c (.int .i64 0))⟩, ⟨.some 59, .none, .pick (.t 56) (.c (.bool true)) (.t 58)⟩]) (.cond (.t 59) (.seq (.rg false [⟨.some 8, .none, .mv (.c (.bool false))⟩]) .ret) .skip)) (.seq (.rg true [⟨.some 60, .none, .ld (.some 1) (.t 16)⟩, ⟨.some 61, .none, .mv (.t 10)⟩, ⟨.some 62, .none, .mv (.t 13)⟩, ⟨.some 63, .none, .mv (.t 13)⟩, ⟨.some 64, .none, .lenS (.t 63)⟩, ⟨.some 65, .none, .mnmx false [.t 64, .c (.int .i64 100)]⟩, ⟨.some 66, .none, .slcS (.t 62) .none (.some (.t 65))⟩, ⟨.some 67, .none, .bsl 1 (.string ⟨#[]⟩) 1 [(0, .t 66)]⟩, ⟨.some 68, .none, .app 1 16 false (.t 61) (.t 67)⟩, ⟨.none, .none, .st 1 (.t 9) (.t 60)⟩, ⟨.some 10, .none, .mv (.t 68)⟩]) (.seq (.rg false [⟨.some 69, .none, .mv (.t 12)⟩, ⟨.some 70, .none, .mv (.t 1)⟩, ⟨.some 71, .none, .lenL (.t 70)⟩, ⟨.some 72, .none, .bin .lss (.t 69) (.t 71)⟩, ⟨.some 73, .none, .mv (.t 72)⟩, ⟨.some 74, .some (73, true), .mv (.t 1)⟩, ⟨.some 75, .some (73, true), .mv (.t 12)⟩, ⟨.some 76, .some (73, true), .ia 1 (.t 74) (.t 75)⟩, ⟨.some 77, .some (73, true), .ld .none (.t 76)⟩, ⟨.some 78, .none, .pick (.t 73) (.t 77) (.c (.bool false))⟩]) (.cond (.t 78) (.seq (.seq (.rg false [⟨.some 80, .none, .ld (.some 1) (.t 9)⟩, ⟨.some 81, .none, .build (.agg #[.int .i64 0, .string ⟨#[]⟩, .string ⟨#[]⟩]) [(0, (1, .c (.int .i64 2))), (1, (1, .c (.string ⟨#[108, 111, 103]⟩)))]⟩, ⟨.some 82, .none, .call 255 .pure [.t 80, .t 81]⟩, ⟨.some 79, .none, .mv (.t 82)⟩, ⟨.some 83, .none, .ext (.t 79) 0⟩, ⟨.some 84, .none, .ext (.t 79) 1⟩, ⟨.none, .none, .st 1 (.t 9) (.t 83)⟩, ⟨.some 17, .none, .mv (.t 84)⟩]) (.seq (.rg false [⟨.some 85, .none, .mv (.t 17)⟩, ⟨.some 86, .none, .bin .neq (.t 85) (.c (.int .i64 0))⟩]) (.cond (.t 86) (.seq (.rg false [⟨.some 8, .none, .mv (.c (.bool false))⟩]) .ret) .skip))) (.rg false [⟨.some 87, .none, .mv (.t 10)⟩, ⟨.some 88, .none, .lenL (.t 87)⟩, ⟨.some 11, .none, .mv (.t 88)⟩])) .skip))))))))) (.rg false [⟨.some 89, .none, .bin .add (.t 31) (.c (.int .i64 1))⟩, ⟨.some 31, .none, .mv (.t 89)⟩]))))))) (.seq (.rg false [⟨.some 91, .none, .ld (.some 1) (.t 9)⟩, ⟨.some 92, .none, .call 259 .pure [.t 91, .c (.string ⟨#[108, 111, 103]⟩)]⟩, ⟨.some 90, .none, .mv (.t 92)⟩, ⟨.some 93, .none, .ext (.t 90) 0⟩, ⟨.some 94, .none, .ext (.t 90) 1⟩, ⟨.some 18, .none, .mv (.t 93)⟩, ⟨.some 19, .none, .mv (.t 94)⟩]) (.seq (.rg false [⟨.some 96, .none, .mv (.t 18)⟩, ⟨.some 97, .none, .call 262 .pure [.t 96]⟩, ⟨.some 95, .none, .mv (.t 97)⟩, ⟨.some 98, .none, .ext (.t 95) 0⟩, ⟨.some 99, .none, .ext (.t 95) 1⟩, ⟨.some 20, .none, .mv (.t 98)⟩, ⟨.some 21, .none, .mv (.t 99)⟩]) (.seq (.seq (.rg false [⟨.some 100, .none, .mv (.t 20)⟩, ⟨.some 101, .none, .mv (.t 10)⟩, ⟨.some 102, .none, .call 36 .pure [.t 100, .t 101]⟩, ⟨.some 103, .none, .un .not (.t 102)⟩, ⟨.some 104, .none, .mv (.t 103)⟩, ⟨.some 105, .some (104, false), .mv (.t 21)⟩, ⟨.some 106, .some (104, false), .mv (.t 18)⟩, ⟨.some 107, .some (104, false), .lenS (.t 106)⟩, ⟨.some 108, .some (104, false), .bin .neq (.t 105) (.t 107)⟩, ⟨.some 109, .none, .pick (.t 104) (.c (.bool true)) (.t 108)⟩]) (.cond (.t 109) (.seq (.rg false [⟨.some 8, .none, .mv (.c (.bool false))⟩]) .ret) .skip)) (.seq (.rg false [⟨.some 111, .none, .ld (.some 1) (.t 9)⟩, ⟨.some 112, .none, .mv (.t 2)⟩, ⟨.some 113, .none, .bsl 1 (.int .i64 0) 1 [(0, .t 112)]⟩, ⟨.some 114, .none, .call 258 .opn [.t 111, .t 113]⟩, ⟨.some 110, .none, .mv (.t 114)⟩, ⟨.some 115, .none, .ext (.t 110) 0⟩, ⟨.some 116, .none, .ext (.t 110) 1⟩, ⟨.none, .none, .st 1 (.t 9) (.t 115)⟩, ⟨.some 22, .none, .mv (.t 116)⟩]) (.seq (.rg false [⟨.some 118, .none, .ld (.some 1) (.t 9)⟩, ⟨.some 119, .none, .call 259 .pure [.t 118, .c (.string ⟨#[108, 111, 103]⟩)]⟩, ⟨.some 117, .none, .mv (.t 119)⟩, ⟨.some 120, .none, .ext (.t 117) 0⟩, ⟨.some 121, .none, .ext (.t 117) 1⟩, ⟨.some 23, .none, .mv (.t 120)⟩, ⟨.some 24, .none, .mv (.t 121)⟩]) (.seq (.rg false [⟨.some 123, .none, .mv (.t 23)⟩, ⟨.some 124, .none, .call 262 .pure [.t 123]⟩, ⟨.some 122, .none, .mv (.t 124)⟩, ⟨.some 125, .none, .ext (.t 122) 0⟩, ⟨.some 126, .none, .ext (.t 122) 1⟩, ⟨.some 25, .none, .mv (.t 125)⟩, ⟨.some 26, .none, .mv (.t 126)⟩]) (.seq (.rg false [⟨.some 128, .none, .mv (.t 23)⟩, ⟨.some 129, .none, .mv (.t 3)⟩, ⟨.some 130, .none, .mv (.t 3)⟩, ⟨.some 131, .none, .lenS (.t 130)⟩, ⟨.some 132, .none, .mnmx false [.t 131, .c (.int .i64 50)]⟩, ⟨.some 133, .none, .slcS (.t 129) .none (.some (.t 132))⟩, ⟨.some 134, .none, .bin .add (.t 128) (.t 133)⟩, ⟨.some 135, .none, .call 262 .pure [.t 134]⟩, ⟨.some 127, .none, .mv (.t 135)⟩, ⟨.some 136, .none, .ext (.t 127) 0⟩, ⟨.some 137, .none, .ext (.t 127) 1⟩, ⟨.some 27, .none, .mv (.t 136)⟩, ⟨.some 28, .none, .mv (.t 137)⟩]) (.seq (.seq (.rg false [⟨.some 138, .none, .mv (.t 22)⟩, ⟨.some 139, .none, .bin .neq (.t 138) (.c (.int .i64 0))⟩, ⟨.some 140, .none, .mv (.t 139)⟩, ⟨.some 141, .some (140, false), .mv (.t 25)⟩, ⟨.some 142, .some (140, false), .lenL (.t 141)⟩, ⟨.some 143, .some (140, false), .mv (.t 11)⟩, ⟨.some 144, .some (140, false), .bin .lss (.t 142) (.t 143)⟩, ⟨.some 145, .none, .pick (.t 140) (.c (.bool true)) (.t 144)⟩, ⟨.some 146, .none, .mv (.t 145)⟩, ⟨.some 147, .some (146, false), .mv (.t 25)⟩, ⟨.some 148, .some (146, false), .lenL (.t 147)⟩, ⟨.some 149, .some (146, false), .mv (.t 10)⟩, ⟨.some 150, .some (146, false), .lenL (.t 149)⟩, ⟨.some 151, .some (146, false), .bin .gtr (.t 148) (.t 150)⟩, ⟨.some 152, .none, .pick (.t 146) (.c (.bool true)) (.t 151)⟩, ⟨.some 153, .none, .mv (.t 152)⟩, ⟨.some 154, .some (153, false), .mv (.t 27)⟩, ⟨.some 155, .some (153, false), .lenL (.t 154)⟩, ⟨.some 156, .some (153, false), .mv (.t 25)⟩, ⟨.some 157, .some (153, false), .lenL (.t 156)⟩, ⟨.some 158, .some (153, false), .bin .lss (.t 155) (.t 157)⟩, ⟨.some 159, .none, .pick (.t 153) (.c (.bool true)) (.t 158)⟩, ⟨.some 160, .none, .mv (.t 159)⟩, ⟨.some 161, .some (160, false), .call 254 .pure []⟩, ⟨.some 162, .some (160, false), .un .not (.t 161)⟩, ⟨.some 163, .none, .pick (.t 160) (.c (.bool true)) (.t 162)⟩]) (.cond (.t 163) (.seq (.rg false [⟨.some 8, .none, .mv (.c (.bool false))⟩]) .ret) .skip)) (.seq (.rg false [⟨.some 164, .none, .mv (.t 25)⟩, ⟨.some 165, .none, .mv (.t 10)⟩, ⟨.some 166, .none, .mv (.t 25)⟩, ⟨.some 167, .none, .lenL (.t 166)⟩, ⟨.some 168, .none, .slcL 1 (.t 165) .none (.some (.t 167))⟩, ⟨.some 169, .none, .call 36 .pure [.t 164, .t 168]⟩, ⟨.some 170, .none, .mv (.t 169)⟩, ⟨.some 171, .some (170, true), .mv (.t 27)⟩, ⟨.some 172, .some (170, true), .mv (.t 25)⟩, ⟨.some 173, .some (170, true), .lenL (.t 172)⟩, ⟨.some 174, .some (170, true), .slcL 1 (.t 171) .none (.some (.t 173))⟩, ⟨.some 175, .some (170, true), .mv (.t 25)⟩, ⟨.some 176, .some (170, true), .call 36 .pure [.t 174, .t 175]⟩, ⟨.some 177, .none, .pick (.t 170) (.t 176) (.c (.bool false))⟩, ⟨.some 8, .none, .mv (.t 177)⟩]) .ret)))))))))))))))
def ljm : List (Nat × Def) := [(250, d250)]
def dropS : Nat → PC → PC
  | 0, p => p
  | n + 1, .seq _ b => dropS n b
  | _, p => p
def bodyOf : Def → PC
  | .code _ _ b => b
  | _ => .skip
def rest250 : PC := dropS 5 (bodyOf d250)
section
variable {env : Nat → Option Def} {fr : Fr} {σ σ' σ'' : St} {K : Fr → St → Prop} {Q : X → Fr → St → Prop} {p : PV} {bs : List UInt8}
theorem take_le9 (l : List UInt8) (n : Nat) : (l.take n).length ≤ n := by rw [List.length_take]; omega
theorem w_cutB {id : Nat} {b : PC} (P : Fr → St → Prop) (h1 : Wp env b (fun x fr σ => match x with | .normal => P fr σ | .exit i => if i = id then P fr σ else Q (.exit i) fr σ | x => Q x fr σ) fr σ) (h2 : ∀ fr σ, P fr σ → Q .normal fr σ) : Wp env (.block id b) Q fr σ :=
  w_block (h1.mono fun x fr σ h => by
    cases x with
    | normal => exact h2 _ _ h
    | exit i =>
      simp only at h ⊢
      split at h
      · rename_i e; rw [if_pos e]; exact h2 _ _ h
      · rename_i e; rw [if_neg e]; exact h
    | ret => exact h)
theorem Rd9.do (H : Rd9 env) (G : Has ljf env) (G2 : Has ljg env) {l : List Fl} {o : Op9} (hl : l.length ≤ 900) (hsm : ∀ f ∈ l, f.Sm) (ho : o.Sm) : AV env 255 [.agg [.sl (fls l)], opV o] = some (.tu [.agg [.sl (fls (doS l o).1)], .sc (.int .i64 (doS l o).2)]) :=
  a255 H.a1 H.a2 H.b H.c H.e H.f H.j H.d H.o G G2 H.h hl hsm ho
theorem Rd9.read (H : Rd9 env) {l : List Fl} (hl : l.length ≤ 900) (hsm : ∀ f ∈ l, f.Sm) (n : List UInt8) : AV env 259 [.agg [.sl (fls l)], txt n] = some (.tu [txt (readS l n).1, .sc (.int .i64 (readS l n).2)]) :=
  a259 H.a1 H.a2 H.b H.c H.e H.f H.d H.o H.h hl hsm n
def bls (l : List Bool) : List PV := l.map fun b => .sc (.bool b)
structure TearP (ls : List (List UInt8)) (i : Nat) (fr : Fr) (σ : St) : Prop where
  q : ∃ a k p0, a = (ls.take i).map (fun x => x.take 100) ∧ a.length ≤ 12 ∧ k ≤ a.length ∧ fr 11 = .sc (.int .i64 (k : Int)) ∧ Gat σ [68] 1 false (fr 10) (txts a) ∧
    σ.m 2000009 0 = some ⟨1, [.agg [p0]], true, true⟩ ∧ cellsOf p0 = [p0] ∧ okc p0 = true ∧ cl p0 = true ∧ ∀ (τ : St) (d : Nat), fz τ (d + 4) p0 = some (.sl (fls (logB a k)))
  f : Fresh σ
  c : 0 < σ.c 2000009
theorem logB_sm {a : List (List UInt8)} {k : Nat} (hl : a.length ≤ 12) (h : ∀ x ∈ a, x.length ≤ 100) : (logB a k).length ≤ 1 ∧ ∀ f ∈ logB a k, f.Sm := by
  have h1 := recs_len a h
  have hsum := congrArg List.length (take_drop_recs a k)
  rw [List.length_append] at hsum
  unfold logB
  split
  · exact ⟨by simp, by simp⟩
  · refine ⟨by simp [logF], fun f hf => ?_⟩
    simp only [logF, List.mem_singleton] at hf
    subst hf
    exact ⟨show (3 : Nat) ≤ _ by decide, show ((a.take k).flatMap recB).length ≤ _ by omega, show ((a.drop k).flatMap recB).length ≤ _ by omega⟩
theorem w_seqC {a b : PC} (P : Fr → St → Prop) (h1 : Wp env a (fun x fr σ => x = .normal ∧ P fr σ) fr σ) (h2 : ∀ fr σ, P fr σ → Wp env b Q fr σ) : Wp env (.seq a b) Q fr σ :=
  w_seq (h1.mono fun x fr σ h => by
    obtain ⟨rfl, h⟩ := h
    exact h2 _ _ h)
structure Kept (fr1 fr : Fr) : Prop where
  f2 : fr 2 = fr1 2
  f3 : fr 3 = fr1 3
  f9 : fr 9 = fr1 9
  f10 : fr 10 = fr1 10
  f11 : fr 11 = fr1 11
theorem tearsEnd (H : Rd9 env) (C : Has ljl env) (R1 : Has lib env) (R2 : Has lic env) (R3 : Has lie env) (S : Has lii env) (hal : AV env 254 [] = some (.sc (.bool true))) {ls : List (List UInt8)} {kp : Int} {bh : List UInt8} {i : Nat} {fr1 : Fr} {σ1 : St}
    (hT : TearP ls i fr1 σ1) (f9 : fr1 9 = .bx 2000009 0 1 0 0) (f2 : fr1 2 = .sc (.int .i64 kp)) (f3 : fr1 3 = txt bh) (hQ : ∀ fr σ, fr 8 = .sc (.bool true) → Q .ret fr σ) : Wp env rest250 Q fr1 σ1 := by
  obtain ⟨⟨a, k, p0, ea, ha, hk, f11, hg, m9, cp, okp, clp, hfz⟩, hF, hc9⟩ := hT
  have hsm : ∀ x ∈ a, x.length ≤ 100 := by
    intro x hx
    rw [ea] at hx
    simp only [List.mem_map] at hx
    obtain ⟨y, _, rfl⟩ := hx
    exact take_le9 y 100
  have hls0 := logB_sm (k := k) ha hsm
  have hrl := recs_len a hsm
  have hr1 : AV env 259 [.agg [.sl (fls (logB a k))], .sc (.string ⟨#[108, 111, 103]⟩)] = some (.tu [txt (a.flatMap recB), .sc (.int .i64 (readS (logB a k) logN).2)]) := by
    have h := H.read (l := logB a k) (by omega) hls0.2 logN
    rw [logB_r ha hsm] at h
    exact h
  generalize (readS (logB a k) logN).2 = u1 at hr1
  have hs1 := a262 R1 R2 R3 (s := a.flatMap recB) (by omega)
  rw [scan_all hsm] at hs1
  obtain ⟨y, m, hcr, ⟨hy1, hy2⟩, hrd, hmk⟩ := logB_c (n := kp) ha hsm hk
  have hr2 : AV env 259 [.agg [.sl (fls y)], .sc (.string ⟨#[108, 111, 103]⟩)] = some (.tu [txt ((a.flatMap recB).take m), .sc (.int .i64 (readS y logN).2)]) := by
    have h := H.read (l := y) (by omega) hy2 logN
    rw [hrd] at h
    exact h
  generalize (readS y logN).2 = u2 at hr2
  obtain ⟨j, q, hj1, hj2, ht1, ht2⟩ := tears (bh.take 50) hsm hk hmk
  have hml : ((a.flatMap recB).take m).length ≤ 105 * a.length := by rw [List.length_take]; omega
  have hs2 := a262 R1 R2 R3 (s := (a.flatMap recB).take m) (by omega)
  have hbl := take_le9 bh 50
  have hs3 := a262 R1 R2 R3 (s := (a.flatMap recB).take m ++ bh.take 50) (by rw [List.length_append]; omega)
  rw [ht1] at hs2
  rw [ht2] at hs3
  have c1 := cut_take bh 50
  have b1 : ∀ (n : Nat) (k : IntKind), bound n (.sc (.int k (min (n : Int) 50))) = some (min n 50) := fun n k => bound_min rfl
  generalize bh.take 50 = b' at c1 hs3 hbl
  have w1 := a36s S (a := a) (b := a) (by omega)
  rw [decide_eq_true rfl] at w1
  have w2 := a36s S (a := a.take j) (b := a.take j) (by rw [List.length_take]; omega)
  rw [decide_eq_true rfl] at w2
  have hrln : ((a.flatMap recB).length : Int) ≤ 9223372036854775807 := by omega
  generalize hW : a.flatMap recB = W at hr1 hs1 hr2 hs2 hs3 hrl hml hrln
  generalize W.take m = V at hr2 hs2 hs3 hml
  have c3 : V.length + b'.length ≤ 9223372036854775807 := by omega
  have hpf : ∀ d, fz σ1 (d + 2) (fr1 10) = some (.sl (txts a)) := fun d => gat_fzd hg (txts_fz σ1 d a)
  have hne : ((W.length : Int) != (W.length : Int)) = false := bne_self_eq_false _
  have hne0 : ((0 : Int) != 0) = false := rfl
  simp only [rest250, dropS, bodyOf, d250]
  refine w_seqC (fun fr σ => σ1 = σ ∧ Kept fr1 fr ∧ fr 18 = txt W) ?_ ?_
  · (repeat' first
    | refine w_seq ?_ | refine w_rg ?_ | refine wo_nil ?_ | refine g_skU ?_ | refine g_skT ?_ | refine g_skF ?_
    | ((first | apply s_plain | apply s_void | apply s_guard | apply g_goT | apply g_goF); · simp only [go_sem, Nat.reduceEqDiff, Nat.reduceAdd, Nat.reduceLeDiff, f9, m9, cp, clp, hfz, hr1, List.set_cons_succ]; (first | done | rfl))
    | ((first | apply g_T | apply g_F | apply g_gT | apply g_gF); · intro q1_; (first | intro q2_ | have q2_ := q1_); simp only [go_sem, Nat.reduceEqDiff, Nat.reduceAdd, Nat.reduceLeDiff, f9, m9, cp, clp, hfz, hr1, List.set_cons_succ, q1_, q2_]; (first | done | rfl))
    | (apply w_condX; · simp only [go_sem, Nat.reduceEqDiff, Nat.reduceAdd, Nat.reduceLeDiff, f9, m9, cp, clp, hfz, hr1, List.set_cons_succ]; (first | done | rfl)); (first | refine wcd_T ?_ | refine wcd_F ?_)
    | refine w_skip ?_ | refine w_exit ?_ | refine w_ret ?_
    | fail
    )
    exact ⟨rfl, rfl, ⟨by simp only [go_sem, Nat.reduceEqDiff, Nat.reduceAdd, Nat.reduceLeDiff], by simp only [go_sem, Nat.reduceEqDiff, Nat.reduceAdd, Nat.reduceLeDiff], by simp only [go_sem, Nat.reduceEqDiff, Nat.reduceAdd, Nat.reduceLeDiff], by simp only [go_sem, Nat.reduceEqDiff, Nat.reduceAdd, Nat.reduceLeDiff], by simp only [go_sem, Nat.reduceEqDiff, Nat.reduceAdd, Nat.reduceLeDiff]⟩, by simp only [go_sem, Nat.reduceEqDiff, Nat.reduceAdd, Nat.reduceLeDiff]⟩
  rintro fr2 _ ⟨rfl, K2, g18⟩
  refine w_seqC (fun fr σ => σ1 = σ ∧ Kept fr1 fr ∧ fr 18 = txt W ∧ fr 20 = .sl (txts a) ∧ fr 21 = .sc (.int .i64 (W.length : Int))) ?_ ?_
  · (repeat' first
    | refine w_seq ?_ | refine w_rg ?_ | refine wo_nil ?_ | refine g_skU ?_ | refine g_skT ?_ | refine g_skF ?_
    | ((first | apply s_plain | apply s_void | apply s_guard | apply g_goT | apply g_goF); · simp only [go_sem, Nat.reduceEqDiff, Nat.reduceAdd, Nat.reduceLeDiff, g18, hs1]; (first | done | rfl))
    | ((first | apply g_T | apply g_F | apply g_gT | apply g_gF); · intro q1_; (first | intro q2_ | have q2_ := q1_); simp only [go_sem, Nat.reduceEqDiff, Nat.reduceAdd, Nat.reduceLeDiff, g18, hs1, q1_, q2_]; (first | done | rfl))
    | (apply w_condX; · simp only [go_sem, Nat.reduceEqDiff, Nat.reduceAdd, Nat.reduceLeDiff, g18, hs1]; (first | done | rfl)); (first | refine wcd_T ?_ | refine wcd_F ?_)
    | refine w_skip ?_ | refine w_exit ?_ | refine w_ret ?_
    | fail
    )
    exact ⟨rfl, rfl, ⟨by simp only [go_sem, Nat.reduceEqDiff, Nat.reduceAdd, Nat.reduceLeDiff]; exact K2.f2, by simp only [go_sem, Nat.reduceEqDiff, Nat.reduceAdd, Nat.reduceLeDiff]; exact K2.f3, by simp only [go_sem, Nat.reduceEqDiff, Nat.reduceAdd, Nat.reduceLeDiff]; exact K2.f9, by simp only [go_sem, Nat.reduceEqDiff, Nat.reduceAdd, Nat.reduceLeDiff]; exact K2.f10, by simp only [go_sem, Nat.reduceEqDiff, Nat.reduceAdd, Nat.reduceLeDiff]; exact K2.f11⟩, by simp only [go_sem, Nat.reduceEqDiff, Nat.reduceAdd, Nat.reduceLeDiff]; exact g18, by simp only [go_sem, Nat.reduceEqDiff, Nat.reduceAdd, Nat.reduceLeDiff], by simp only [go_sem, Nat.reduceEqDiff, Nat.reduceAdd, Nat.reduceLeDiff]⟩
  rintro fr3 _ ⟨rfl, K3, g18, g20, g21⟩
  refine w_seqC (fun fr σ => σ1 = σ ∧ Kept fr1 fr) ?_ ?_
  · have hp3 : fr3 10 = fr1 10 := K3.f10
    (repeat' first
    | refine w_seq ?_ | refine w_rg ?_ | refine wo_nil ?_ | refine g_skU ?_ | refine g_skT ?_ | refine g_skF ?_
    | ((first | apply s_plain | apply s_void | apply s_guard | apply g_goT | apply g_goF); · simp only [go_sem, Nat.reduceEqDiff, Nat.reduceAdd, Nat.reduceLeDiff, g18, g20, g21, hp3, hpf, w1, hne, List.size_toArray]; (first | done | rfl))
    | ((first | apply g_T | apply g_F | apply g_gT | apply g_gF); · intro q1_; (first | intro q2_ | have q2_ := q1_); simp only [go_sem, Nat.reduceEqDiff, Nat.reduceAdd, Nat.reduceLeDiff, g18, g20, g21, hp3, hpf, w1, hne, List.size_toArray, q1_, q2_]; (first | done | rfl))
    | (apply w_condX; · simp only [go_sem, Nat.reduceEqDiff, Nat.reduceAdd, Nat.reduceLeDiff, g18, g20, g21, hp3, hpf, w1, hne, List.size_toArray]; (first | done | rfl)); (first | refine wcd_T ?_ | refine wcd_F ?_)
    | refine w_skip ?_ | refine w_exit ?_ | refine w_ret ?_
    | fail
    )
    exact ⟨rfl, rfl, ⟨by simp only [go_sem, Nat.reduceEqDiff, Nat.reduceAdd, Nat.reduceLeDiff]; exact K3.f2, by simp only [go_sem, Nat.reduceEqDiff, Nat.reduceAdd, Nat.reduceLeDiff]; exact K3.f3, by simp only [go_sem, Nat.reduceEqDiff, Nat.reduceAdd, Nat.reduceLeDiff]; exact K3.f9, by simp only [go_sem, Nat.reduceEqDiff, Nat.reduceAdd, Nat.reduceLeDiff]; exact K3.f10, by simp only [go_sem, Nat.reduceEqDiff, Nat.reduceAdd, Nat.reduceLeDiff]; exact K3.f11⟩⟩
  rintro fr4 _ ⟨rfl, K4⟩
  have hll2 : (a.take j).length = j := by rw [List.length_take]; omega
  obtain ⟨rv, σ2, hE, ⟨⟨q0, hq0, hrow⟩, kk⟩⟩ := a258 H C (σ := σ1.new 113 ⟨1, [.sc (.int .i64 kp)], true, true⟩) (ks := [kp]) (o := 113) (g := σ1.c 113) (al := true) (wr := true) cp okp clp hfz (by omega) hls0.2 (by simp) (by simp only [go_sem, Nat.reduceEqDiff, Nat.reduceAdd, Nat.reduceLeDiff, ints, List.map_cons, List.map_nil]) (hF.new _ _)
  rw [hcr] at hq0 hrow
  subst hq0
  have n9 : σ2.m 2000009 0 = some ⟨1, [.agg [p0]], true, true⟩ := by
    rw [kk.m 2000009 0 trivial (by simp only [go_sem, Nat.reduceEqDiff, Nat.reduceAdd, Nat.reduceLeDiff]; exact hc9)]
    simp only [go_sem, Nat.reduceEqDiff, Nat.reduceAdd, Nat.reduceLeDiff, m9]
  obtain ⟨ok1, ok2⟩ := hrow.ok
  have hzr : ∀ d, fz (σ2.put 2000009 0 (some ⟨1, [.agg [q0]], true, true⟩)) (d + 3) q0 = some (.sl (fls y)) := fun d => (hrow.put (by decide) _).fz (fls_fz _ d _)
  have hg3 : Gat (σ2.put 2000009 0 (some ⟨1, [.agg [q0]], true, true⟩)) [68] 1 false (fr1 10) (txts a) := (kk.gat (o := 68) trivial (hg.new _)).put (by decide) _
  refine w_seqC (fun fr σ => σ = σ2.put 2000009 0 (some ⟨1, [.agg [q0]], true, true⟩) ∧ Kept fr1 fr ∧ fr 22 = .sc (.int .i64 0)) ?_ ?_
  · have k9 := K4.f9.trans f9
    have k2 := K4.f2.trans f2
    (repeat' first
    | refine w_seq ?_ | refine w_rg ?_ | refine wo_nil ?_ | refine g_skU ?_ | refine g_skT ?_ | refine g_skF ?_
    | ((first | apply s_plain | apply s_void | apply s_guard | apply g_goT | apply g_goF); · simp only [go_sem, Nat.reduceEqDiff, Nat.reduceAdd, Nat.reduceLeDiff, k9, k2, m9, cp, List.set_cons_succ]; (first | done | rfl))
    | ((first | apply g_T | apply g_F | apply g_gT | apply g_gF); · intro q1_; (first | intro q2_ | have q2_ := q1_); simp only [go_sem, Nat.reduceEqDiff, Nat.reduceAdd, Nat.reduceLeDiff, k9, k2, m9, cp, List.set_cons_succ, q1_, q2_]; (first | done | rfl))
    | (apply w_condX; · simp only [go_sem, Nat.reduceEqDiff, Nat.reduceAdd, Nat.reduceLeDiff, k9, k2, m9, cp, List.set_cons_succ]; (first | done | rfl)); (first | refine wcd_T ?_ | refine wcd_F ?_)
    | refine w_skip ?_ | refine w_exit ?_ | refine w_ret ?_
    | fail
    )
    refine s_plain (v := .tu [.agg [q0], .sc (.int .i64 0)]) (σ' := σ2) (by simp only [go_sem, Nat.reduceEqDiff, Nat.reduceAdd, Nat.reduceLeDiff]; exact hE) ?_
    (repeat' first
    | refine w_seq ?_ | refine w_rg ?_ | refine wo_nil ?_ | refine g_skU ?_ | refine g_skT ?_ | refine g_skF ?_
    | ((first | apply s_plain | apply s_void | apply s_guard | apply g_goT | apply g_goF); · simp only [go_sem, Nat.reduceEqDiff, Nat.reduceAdd, Nat.reduceLeDiff, k9, n9, ok1, ok2, List.set_cons_succ]; (first | done | rfl))
    | ((first | apply g_T | apply g_F | apply g_gT | apply g_gF); · intro q1_; (first | intro q2_ | have q2_ := q1_); simp only [go_sem, Nat.reduceEqDiff, Nat.reduceAdd, Nat.reduceLeDiff, k9, n9, ok1, ok2, List.set_cons_succ, q1_, q2_]; (first | done | rfl))
    | (apply w_condX; · simp only [go_sem, Nat.reduceEqDiff, Nat.reduceAdd, Nat.reduceLeDiff, k9, n9, ok1, ok2, List.set_cons_succ]; (first | done | rfl)); (first | refine wcd_T ?_ | refine wcd_F ?_)
    | refine w_skip ?_ | refine w_exit ?_ | refine w_ret ?_
    | fail
    )
    exact ⟨rfl, rfl, ⟨by simp only [go_sem, Nat.reduceEqDiff, Nat.reduceAdd, Nat.reduceLeDiff]; exact K4.f2, by simp only [go_sem, Nat.reduceEqDiff, Nat.reduceAdd, Nat.reduceLeDiff]; exact K4.f3, by simp only [go_sem, Nat.reduceEqDiff, Nat.reduceAdd, Nat.reduceLeDiff]; exact K4.f9, by simp only [go_sem, Nat.reduceEqDiff, Nat.reduceAdd, Nat.reduceLeDiff]; exact K4.f10, by simp only [go_sem, Nat.reduceEqDiff, Nat.reduceAdd, Nat.reduceLeDiff]; exact K4.f11⟩, by simp only [go_sem, Nat.reduceEqDiff, Nat.reduceAdd, Nat.reduceLeDiff]⟩
  rintro fr5 _ ⟨rfl, K5, g22⟩
  have o9 : (σ2.put 2000009 0 (some ⟨1, [.agg [q0]], true, true⟩)).m 2000009 0 = some ⟨1, [.agg [q0]], true, true⟩ := by simp only [go_sem, Nat.reduceEqDiff, Nat.reduceAdd, Nat.reduceLeDiff]
  generalize σ2.put 2000009 0 (some ⟨1, [.agg [q0]], true, true⟩) = σ3 at hzr hg3 o9 ⊢
  refine w_seqC (fun fr σ => σ3 = σ ∧ Kept fr1 fr ∧ fr 22 = .sc (.int .i64 0) ∧ fr 23 = txt V) ?_ ?_
  · have k9 := K5.f9.trans f9
    (repeat' first
    | refine w_seq ?_ | refine w_rg ?_ | refine wo_nil ?_ | refine g_skU ?_ | refine g_skT ?_ | refine g_skF ?_
    | ((first | apply s_plain | apply s_void | apply s_guard | apply g_goT | apply g_goF); · simp only [go_sem, Nat.reduceEqDiff, Nat.reduceAdd, Nat.reduceLeDiff, k9, o9, ok1, ok2, hzr, hr2, List.set_cons_succ]; (first | done | rfl))
    | ((first | apply g_T | apply g_F | apply g_gT | apply g_gF); · intro q1_; (first | intro q2_ | have q2_ := q1_); simp only [go_sem, Nat.reduceEqDiff, Nat.reduceAdd, Nat.reduceLeDiff, k9, o9, ok1, ok2, hzr, hr2, List.set_cons_succ, q1_, q2_]; (first | done | rfl))
    | (apply w_condX; · simp only [go_sem, Nat.reduceEqDiff, Nat.reduceAdd, Nat.reduceLeDiff, k9, o9, ok1, ok2, hzr, hr2, List.set_cons_succ]; (first | done | rfl)); (first | refine wcd_T ?_ | refine wcd_F ?_)
    | refine w_skip ?_ | refine w_exit ?_ | refine w_ret ?_
    | fail
    )
    exact ⟨rfl, rfl, ⟨by simp only [go_sem, Nat.reduceEqDiff, Nat.reduceAdd, Nat.reduceLeDiff]; exact K5.f2, by simp only [go_sem, Nat.reduceEqDiff, Nat.reduceAdd, Nat.reduceLeDiff]; exact K5.f3, by simp only [go_sem, Nat.reduceEqDiff, Nat.reduceAdd, Nat.reduceLeDiff]; exact K5.f9, by simp only [go_sem, Nat.reduceEqDiff, Nat.reduceAdd, Nat.reduceLeDiff]; exact K5.f10, by simp only [go_sem, Nat.reduceEqDiff, Nat.reduceAdd, Nat.reduceLeDiff]; exact K5.f11⟩, by simp only [go_sem, Nat.reduceEqDiff, Nat.reduceAdd, Nat.reduceLeDiff]; exact g22, by simp only [go_sem, Nat.reduceEqDiff, Nat.reduceAdd, Nat.reduceLeDiff]⟩
  rintro fr6 _ ⟨rfl, K6, g22, g23⟩
  refine w_seqC (fun fr σ => σ3 = σ ∧ Kept fr1 fr ∧ fr 22 = .sc (.int .i64 0) ∧ fr 23 = txt V ∧ fr 25 = .sl (txts (a.take j))) ?_ ?_
  · (repeat' first
    | refine w_seq ?_ | refine w_rg ?_ | refine wo_nil ?_ | refine g_skU ?_ | refine g_skT ?_ | refine g_skF ?_
    | ((first | apply s_plain | apply s_void | apply s_guard | apply g_goT | apply g_goF); · simp only [go_sem, Nat.reduceEqDiff, Nat.reduceAdd, Nat.reduceLeDiff, g23, hs2]; (first | done | rfl))
    | ((first | apply g_T | apply g_F | apply g_gT | apply g_gF); · intro q1_; (first | intro q2_ | have q2_ := q1_); simp only [go_sem, Nat.reduceEqDiff, Nat.reduceAdd, Nat.reduceLeDiff, g23, hs2, q1_, q2_]; (first | done | rfl))
    | (apply w_condX; · simp only [go_sem, Nat.reduceEqDiff, Nat.reduceAdd, Nat.reduceLeDiff, g23, hs2]; (first | done | rfl)); (first | refine wcd_T ?_ | refine wcd_F ?_)
    | refine w_skip ?_ | refine w_exit ?_ | refine w_ret ?_
    | fail
    )
    exact ⟨rfl, rfl, ⟨by simp only [go_sem, Nat.reduceEqDiff, Nat.reduceAdd, Nat.reduceLeDiff]; exact K6.f2, by simp only [go_sem, Nat.reduceEqDiff, Nat.reduceAdd, Nat.reduceLeDiff]; exact K6.f3, by simp only [go_sem, Nat.reduceEqDiff, Nat.reduceAdd, Nat.reduceLeDiff]; exact K6.f9, by simp only [go_sem, Nat.reduceEqDiff, Nat.reduceAdd, Nat.reduceLeDiff]; exact K6.f10, by simp only [go_sem, Nat.reduceEqDiff, Nat.reduceAdd, Nat.reduceLeDiff]; exact K6.f11⟩, by simp only [go_sem, Nat.reduceEqDiff, Nat.reduceAdd, Nat.reduceLeDiff]; exact g22, by simp only [go_sem, Nat.reduceEqDiff, Nat.reduceAdd, Nat.reduceLeDiff]; exact g23, by simp only [go_sem, Nat.reduceEqDiff, Nat.reduceAdd, Nat.reduceLeDiff]⟩
  rintro fr7 _ ⟨rfl, K7, g22, g23, g25⟩
  refine w_seqC (fun fr σ => σ3 = σ ∧ Kept fr1 fr ∧ fr 22 = .sc (.int .i64 0) ∧ fr 25 = .sl (txts (a.take j)) ∧ fr 27 = .sl (txts (a.take j ++ q))) ?_ ?_
  · have k3 := K7.f3.trans f3
    (repeat' first
    | refine w_seq ?_ | refine w_rg ?_ | refine wo_nil ?_ | refine g_skU ?_ | refine g_skT ?_ | refine g_skF ?_
    | ((first | apply s_plain | apply s_void | apply s_guard | apply g_goT | apply g_goF); · simp only [go_sem, Nat.reduceEqDiff, Nat.reduceAdd, Nat.reduceLeDiff, g23, k3, hs3, mn2, b1, c1, c3, List.drop_zero, List.size_toArray]; (first | done | rfl))
    | ((first | apply g_T | apply g_F | apply g_gT | apply g_gF); · intro q1_; (first | intro q2_ | have q2_ := q1_); simp only [go_sem, Nat.reduceEqDiff, Nat.reduceAdd, Nat.reduceLeDiff, g23, k3, hs3, mn2, b1, c1, c3, List.drop_zero, List.size_toArray, q1_, q2_]; (first | done | rfl))
    | (apply w_condX; · simp only [go_sem, Nat.reduceEqDiff, Nat.reduceAdd, Nat.reduceLeDiff, g23, k3, hs3, mn2, b1, c1, c3, List.drop_zero, List.size_toArray]; (first | done | rfl)); (first | refine wcd_T ?_ | refine wcd_F ?_)
    | refine w_skip ?_ | refine w_exit ?_ | refine w_ret ?_
    | fail
    )
    exact ⟨rfl, rfl, ⟨by simp only [go_sem, Nat.reduceEqDiff, Nat.reduceAdd, Nat.reduceLeDiff]; exact K7.f2, by simp only [go_sem, Nat.reduceEqDiff, Nat.reduceAdd, Nat.reduceLeDiff]; exact K7.f3, by simp only [go_sem, Nat.reduceEqDiff, Nat.reduceAdd, Nat.reduceLeDiff]; exact K7.f9, by simp only [go_sem, Nat.reduceEqDiff, Nat.reduceAdd, Nat.reduceLeDiff]; exact K7.f10, by simp only [go_sem, Nat.reduceEqDiff, Nat.reduceAdd, Nat.reduceLeDiff]; exact K7.f11⟩, by simp only [go_sem, Nat.reduceEqDiff, Nat.reduceAdd, Nat.reduceLeDiff]; exact g22, by simp only [go_sem, Nat.reduceEqDiff, Nat.reduceAdd, Nat.reduceLeDiff]; exact g25, by simp only [go_sem, Nat.reduceEqDiff, Nat.reduceAdd, Nat.reduceLeDiff]⟩
  rintro fr8 _ ⟨rfl, K8, g22, g25, g27⟩
  have hL1 : (txts (a.take j)).length = j := by rw [txts_len]; exact hll2
  have hL2 : (txts (a.take j ++ q)).length = j + q.length := by rw [txts_len, List.length_append, hll2]
  have hL3 : (txts a).length = a.length := txts_len a
  have k11 := K8.f11.trans f11
  have k10 := K8.f10
  have hlp : lenP (fr1 10) = some a.length := by rw [hg3.lenP, hL3]
  refine w_seqC (fun fr σ => σ3 = σ ∧ fr 10 = fr1 10 ∧ fr 25 = .sl (txts (a.take j)) ∧ fr 27 = .sl (txts (a.take j ++ q))) ?_ ?_
  · have d1 : decide ((j : Int) < (k : Int)) = false := by rw [decide_eq_false_iff_not]; omega
    have d2 : decide ((j : Int) > (a.length : Int)) = false := by rw [decide_eq_false_iff_not]; omega
    have d3 : decide (((j + q.length : Nat) : Int) < (j : Int)) = false := by rw [decide_eq_false_iff_not]; omega
    (repeat' first
    | refine w_seq ?_ | refine w_rg ?_ | refine wo_nil ?_ | refine g_skU ?_ | refine g_skT ?_ | refine g_skF ?_
    | ((first | apply s_plain | apply s_void | apply s_guard | apply g_goT | apply g_goF); · simp only [go_sem, Nat.reduceEqDiff, Nat.reduceAdd, Nat.reduceLeDiff, g22, g25, g27, k11, k10, hlp, hL1, hL2, hL3, d1, d2, d3, hal, hne0]; (first | done | rfl))
    | ((first | apply g_T | apply g_F | apply g_gT | apply g_gF); · intro q1_; (first | intro q2_ | have q2_ := q1_); simp only [go_sem, Nat.reduceEqDiff, Nat.reduceAdd, Nat.reduceLeDiff, g22, g25, g27, k11, k10, hlp, hL1, hL2, hL3, d1, d2, d3, hal, hne0, q1_, q2_]; (first | done | rfl))
    | (apply w_condX; · simp only [go_sem, Nat.reduceEqDiff, Nat.reduceAdd, Nat.reduceLeDiff, g22, g25, g27, k11, k10, hlp, hL1, hL2, hL3, d1, d2, d3, hal, hne0]; (first | done | rfl)); (first | refine wcd_T ?_ | refine wcd_F ?_)
    | refine w_skip ?_ | refine w_exit ?_ | refine w_ret ?_
    | fail
    )
    exact ⟨rfl, rfl, by simp only [go_sem, Nat.reduceEqDiff, Nat.reduceAdd, Nat.reduceLeDiff]; exact k10, by simp only [go_sem, Nat.reduceEqDiff, Nat.reduceAdd, Nat.reduceLeDiff]; exact g25, by simp only [go_sem, Nat.reduceEqDiff, Nat.reduceAdd, Nat.reduceLeDiff]; exact g27⟩
  rintro fr9 _ ⟨rfl, g10, g25, g27⟩
  have b2 : bound a.length (.sc (.int .i64 (j : Int))) = some j := by simp only [bound]; rw [if_pos (by omega)]; rfl
  have b3 : bound (j + q.length) (.sc (.int .i64 (j : Int))) = some j := by simp only [bound]; rw [if_pos (by omega)]; rfl
  have t1 : (txts (a.take j ++ q)).take j = txts (a.take j) := by
    simp only [txts, ← List.map_take]
    rw [List.take_append_of_le_length (by omega), List.take_of_length_le (by omega)]
  have t2 : (txts a).take j = txts (a.take j) := by simp only [txts, List.map_take]
  have cT : ∀ l : List (List UInt8), (txts l).all (fun x => (cellsOf x).length == 1) = true := by intro l; simp [txts, txt, cellsOf]
  obtain ⟨pp, hs5, hfz5⟩ : ∃ pp, (∀ fr : Fr, ∀ t : Nat, fr t = .sc (.int .i64 (j : Int)) → slcLP 1 fr (fr1 10) none (some (.t t)) = some pp) ∧ ∀ d, fz σ3 (d + 2) pp = some (.sl (txts (a.take j))) := by
    rcases hg3 with ⟨hp, hx⟩ | ⟨og, gg, wr, hog, hp, hm3, _⟩
    · have h0 : a.length = 0 := by rw [← hL3, hx]; rfl
      have hj0 : j = 0 := by omega
      subst hj0
      rw [hp]
      refine ⟨.em, fun fr t ht => ?_, fun d => rfl⟩
      simp only [slcLP, hiOf, pa, ht, bound]
      rfl
    · rw [hp, hL3]
      refine ⟨.ob og gg 1 (0 + 0) (j - 0), fun fr t ht => ?_, fun d => ?_⟩
      · simp only [slcLP, if_true, hiOf, pa, ht, b2, Option.bind_some, loOf]
      · rw [fz_ob, hm3]
        simp only
        rw [if_pos ⟨trivial, by omega⟩, List.drop_zero, Nat.sub_zero, t2, txts_fz]
        rfl
  (repeat' first
    | refine w_seq ?_ | refine w_rg ?_ | refine wo_nil ?_ | refine g_skU ?_ | refine g_skT ?_ | refine g_skF ?_
    | ((first | apply s_plain | apply s_void | apply s_guard | apply g_goT | apply g_goF); · simp only [go_sem, Nat.reduceEqDiff, Nat.reduceAdd, Nat.reduceLeDiff, g10, g25, g27, hL1, hL2, hs5, hfz5, slcLP_sl, cT, b3, t1, w2]; (first | done | rfl))
    | ((first | apply g_T | apply g_F | apply g_gT | apply g_gF); · intro q1_; (first | intro q2_ | have q2_ := q1_); simp only [go_sem, Nat.reduceEqDiff, Nat.reduceAdd, Nat.reduceLeDiff, g10, g25, g27, hL1, hL2, hs5, hfz5, slcLP_sl, cT, b3, t1, w2, q1_, q2_]; (first | done | rfl))
    | (apply w_condX; · simp only [go_sem, Nat.reduceEqDiff, Nat.reduceAdd, Nat.reduceLeDiff, g10, g25, g27, hL1, hL2, hs5, hfz5, slcLP_sl, cT, b3, t1, w2]; (first | done | rfl)); (first | refine wcd_T ?_ | refine wcd_F ?_)
    | refine w_skip ?_ | refine w_exit ?_ | refine w_ret ?_
    | fail
    )
  exact hQ _ _ (by simp only [go_sem, Nat.reduceEqDiff, Nat.reduceAdd, Nat.reduceLeDiff])
end

section
variable {env : Nat → Option Def} {fr : Fr} {σ σ' σ'' : St} {K : Fr → St → Prop} {Q : X → Fr → St → Prop} {p : PV} {bs : List UInt8}
theorem a250 (H : Rd9 env) (G : Has ljf env) (G2 : Has ljg env) (C : Has ljl env) (R1 : Has lib env) (R2 : Has lic env) (R3 : Has lie env) (S : Has lii env) (M : Has ljm env) (hal : AV env 254 [] = some (.sc (.bool true))) {ls : List (List UInt8)} (hls : ls.length ≤ 9223372036854775807) (sy : List Bool) (kp : Int) (bh : List UInt8) :
    AV env 250 [.sl (txts ls), .sl (bls sy), .sc (.int .i64 kp), txt bh] = some (.sc (.bool true)) := by
  have hll := txts_len ls
  refine AV_wp (M (250, d250) (by simp [ljm])) rfl ?_
  (repeat' first
    | refine w_seq ?_ | refine w_rg ?_ | refine wo_nil ?_ | refine g_skU ?_ | refine g_skT ?_ | refine g_skF ?_
    | ((first | apply s_plain | apply s_void | apply s_guard | apply g_goT | apply g_goF); · simp only [go_sem, Nat.reduceEqDiff, Nat.reduceAdd, Nat.reduceLeDiff, hll, List.set_cons_succ]; (first | done | rfl))
    | ((first | apply g_T | apply g_F | apply g_gT | apply g_gF); · intro q1_; (first | intro q2_ | have q2_ := q1_); simp only [go_sem, Nat.reduceEqDiff, Nat.reduceAdd, Nat.reduceLeDiff, hll, List.set_cons_succ, q1_, q2_]; (first | done | rfl))
    | fail
    )
  refine w_cutB (fun fr σ => ∃ i, TearP ls i fr σ ∧ fr 9 = .bx 2000009 0 1 0 0 ∧ fr 2 = .sc (.int .i64 kp) ∧ fr 3 = txt bh) ?_ ?_
  · refine w_rangeF ls.length hls (fun i fr σ => i ≤ 12 ∧ TearP ls i fr σ) ⟨by decide, rfl, rfl⟩ (fun _ _ _ _ h => ⟨⟨h.1, ⟨h.2.q, h.2.f, h.2.c⟩⟩, ⟨h.1, ⟨h.2.q, h.2.f, h.2.c⟩⟩, ⟨h.1, ⟨h.2.q, h.2.f, h.2.c⟩⟩⟩) ⟨by omega, ⟨⟨[], 0, .em, rfl, by simp, by simp, rfl, .em, by simp only [go_sem, Nat.reduceEqDiff, Nat.reduceAdd, Nat.reduceLeDiff], rfl, rfl, rfl, fun _ _ => rfl⟩, Fresh.nil.new _ _, by simp [new_c]⟩⟩ (by simp only [go_sem, Nat.reduceEqDiff, Nat.reduceAdd, Nat.reduceLeDiff]; first | done | rfl) (by simp only [go_sem, Nat.reduceEqDiff, Nat.reduceAdd, Nat.reduceLeDiff, hll]; first | done | rfl) ?_ ?_
    · rintro i fr1 σ1 hi ⟨hi12, ⟨⟨a, k, p0, ea, ha, hk, f11, hg, m9, cp, okp, clp, hfz⟩, hF, hc9⟩⟩ hti hfr
      have f0_1 := hfr 1 rfl; have f0_9 := hfr 9 rfl; have f0_29 := hfr 29 rfl; have f0_30 := hfr 30 rfl; try (simp only [go_sem, Nat.reduceEqDiff, Nat.reduceAdd, Nat.reduceLeDiff] at f0_1); try (simp only [go_sem, Nat.reduceEqDiff, Nat.reduceAdd, Nat.reduceLeDiff] at f0_9); try (simp only [go_sem, Nat.reduceEqDiff, Nat.reduceAdd, Nat.reduceLeDiff] at f0_29); try (simp only [go_sem, Nat.reduceEqDiff, Nat.reduceAdd, Nat.reduceLeDiff] at f0_30)
      have hx := List.getElem?_eq_getElem hi
      have hxt : (txts ls)[i]? = some (txt ls[i]) := by rw [txts, List.getElem?_map, hx]; rfl
      have e1 : (0 : Int) ≤ (i : Int) ∧ (i : Int) < (ls.length : Int) := by omega
      have hal' : a.length = i := by rw [ea, List.length_map, List.length_take]; omega
      have hsm : ∀ x ∈ a, x.length ≤ 100 := by
        intro x hx
        rw [ea] at hx
        simp only [List.mem_map] at hx
        obtain ⟨y, _, rfl⟩ := hx
        exact take_le9 y 100
      refine w_block ?_
      by_cases h12 : i < 12
      · have hge : decide ((i : Int) ≥ 12) = false := by rw [decide_eq_false_iff_not]; omega
        have b1 : ∀ (n : Nat) (k : IntKind), bound n (.sc (.int k (min (n : Int) 100))) = some (min n 100) := fun n k => bound_min rfl
        have c1 := cut_take ls[i] 100
        have hea : a ++ [ls[i].take 100] = (ls.take (i + 1)).map (fun x => x.take 100) := by
          rw [ea, List.take_succ_eq_append_getElem hi, List.map_append, List.map_singleton]
        have hdl := take_le9 ls[i] 100
        generalize ls[i].take 100 = d at c1 hea hdl
        generalize ls[i] = x at hx hxt c1
        have hrec := a261 R1 R2 R3 (d := d) (by omega)
        rw [if_neg (by omega)] at hrec
        have hsm2 : ∀ x ∈ a ++ [d], x.length ≤ 100 := by
          intro x hx
          rcases List.mem_append.1 hx with h | h
          · exact hsm x h
          · simp only [List.mem_singleton] at h; subst h; exact hdl
        have hrl := recB_l1 hdl
        have hls0 := logB_sm (k := k) ha hsm
        have hdo : AV env 255 [.agg [.sl (fls (logB a k))], .agg [.sc (.int .i64 1), .sc (.string ⟨#[108, 111, 103]⟩), txt (recB d)]] = some (.tu [.agg [.sl (fls (logB (a ++ [d]) k))], .sc (.int .i64 0)]) := by
          have h := H.do G G2 (l := logB a k) (o := ⟨1, logN, recB d⟩) (by omega) hls0.2 ⟨show (3 : Nat) ≤ _ by decide, show (recB d).length ≤ _ by omega⟩
          rw [logB_w ha hsm hdl hk] at h
          exact h
        have hne : ((0 : Int) != 0) = false := rfl
        (repeat' first
    | refine w_seq ?_ | refine w_rg ?_ | refine wo_nil ?_ | refine g_skU ?_ | refine g_skT ?_ | refine g_skF ?_
    | ((first | apply s_plain | apply s_void | apply s_guard | apply g_goT | apply g_goF); · simp only [go_sem, Nat.reduceEqDiff, Nat.reduceAdd, Nat.reduceLeDiff, f0_1, f0_9, f0_29, f0_30, hti, e1, hll, Int.toNat_natCast, hxt, hge, mn2, b1, c1, hrec, m9, cp, hdo, hne, List.drop_zero, List.size_toArray, List.set_cons_succ, hfz, clp]; (first | done | rfl))
    | ((first | apply g_T | apply g_F | apply g_gT | apply g_gF); · intro q1_; (first | intro q2_ | have q2_ := q1_); simp only [go_sem, Nat.reduceEqDiff, Nat.reduceAdd, Nat.reduceLeDiff, f0_1, f0_9, f0_29, f0_30, hti, e1, hll, Int.toNat_natCast, hxt, hge, mn2, b1, c1, hrec, m9, cp, hdo, hne, List.drop_zero, List.size_toArray, List.set_cons_succ, hfz, clp, q1_, q2_]; (first | done | rfl))
    | (apply w_condX; · simp only [go_sem, Nat.reduceEqDiff, Nat.reduceAdd, Nat.reduceLeDiff, f0_1, f0_9, f0_29, f0_30, hti, e1, hll, Int.toNat_natCast, hxt, hge, mn2, b1, c1, hrec, m9, cp, hdo, hne, List.drop_zero, List.size_toArray, List.set_cons_succ, hfz, clp]; (first | done | rfl)); (first | refine wcd_T ?_ | refine wcd_F ?_)
    | refine w_skip ?_ | refine w_exit ?_ | refine w_ret ?_
    | fail
    )
        refine s_gat2 (d := 68) (t := 61) (x := .t 67) (xs := txts a) (e := txt d) (by simp only [go_sem, Nat.reduceEqDiff, Nat.reduceAdd, Nat.reduceLeDiff]; exact ((hg.new _).put (d := 2000016) (by decide) _).new _) ((((Kp.refl (P := (2000000 ≤ ·)) hF).new 2000016 ⟨1, [.agg [.em]], true, true⟩).put (x := ⟨1, [.agg [.em]], true, true⟩) (o := 2000016) (g := σ1.c 2000016) (by simp only [go_sem, Nat.reduceEqDiff, Nat.reduceAdd, Nat.reduceLeDiff]) (.inr (Nat.le_refl _)) _).new 67 _).f (by simp only [go_sem, Nat.reduceEqDiff, Nat.reduceAdd, Nat.reduceLeDiff, srcOf, elemsOf, List.set_cons_succ]) rfl rfl (by rw [txts_len]; omega) ?_
        intro p2 σ2 hg2 hF2 _ hm2 hc2 hd2
        have n9 : σ2.m 2000009 0 = some ⟨1, [.agg [p0]], true, true⟩ := by rw [hm2 _ _ (by decide)]; simp only [go_sem, Nat.reduceEqDiff, Nat.reduceAdd, Nat.reduceLeDiff, m9]
        have nc9 : 0 < σ2.c 2000009 := by rw [hc2 _ (by decide)]; simp only [go_sem, Nat.reduceEqDiff, Nat.reduceAdd, Nat.reduceLeDiff]; exact hc9
        (repeat' first
    | refine w_seq ?_ | refine w_rg ?_ | refine wo_nil ?_ | refine g_skU ?_ | refine g_skT ?_ | refine g_skF ?_
    | ((first | apply s_plain | apply s_void | apply s_guard | apply g_goT | apply g_goF); · simp only [go_sem, Nat.reduceEqDiff, Nat.reduceAdd, Nat.reduceLeDiff, f0_1, f0_9, f0_29, f0_30, n9, List.set_cons_succ]; (first | done | rfl))
    | ((first | apply g_T | apply g_F | apply g_gT | apply g_gF); · intro q1_; (first | intro q2_ | have q2_ := q1_); simp only [go_sem, Nat.reduceEqDiff, Nat.reduceAdd, Nat.reduceLeDiff, f0_1, f0_9, f0_29, f0_30, n9, List.set_cons_succ, q1_, q2_]; (first | done | rfl))
    | (apply w_condX; · simp only [go_sem, Nat.reduceEqDiff, Nat.reduceAdd, Nat.reduceLeDiff, f0_1, f0_9, f0_29, f0_30, n9, List.set_cons_succ]; (first | done | rfl)); (first | refine wcd_T ?_ | refine wcd_F ?_)
    | refine w_skip ?_ | refine w_exit ?_ | refine w_ret ?_
    | fail
    )
        have htx : txts (a ++ [d]) = txts a ++ [txt d] := by simp only [txts, List.map_append, List.map_singleton]
        rw [← htx] at hg2
        have hg3 := hg2.put (d := 2000009) (k := 0) (by decide) (some ⟨1, [.agg [.sl (fls (logB (a ++ [d]) k))]], true, true⟩)
        have hF3 := hF2.put n9 (some ⟨1, [.agg [.sl (fls (logB (a ++ [d]) k))]], true, true⟩)
        have o9 : (σ2.put 2000009 0 (some ⟨1, [.agg [.sl (fls (logB (a ++ [d]) k))]], true, true⟩)).m 2000009 0 = some ⟨1, [.agg [.sl (fls (logB (a ++ [d]) k))]], true, true⟩ := by simp only [go_sem, Nat.reduceEqDiff, Nat.reduceAdd, Nat.reduceLeDiff]
        have oc9 : 0 < (σ2.put 2000009 0 (some ⟨1, [.agg [.sl (fls (logB (a ++ [d]) k))]], true, true⟩)).c 2000009 := by simp only [go_sem, Nat.reduceEqDiff, Nat.reduceAdd, Nat.reduceLeDiff]; exact nc9
        have hbl : (bls sy).length = sy.length := by unfold bls; rw [List.length_map]
        have hl2 : (a ++ [d]).length = i + 1 := by rw [List.length_append, hal']; rfl
        generalize (σ2.put 2000009 0 (some ⟨1, [.agg [.sl (fls (logB (a ++ [d]) k))]], true, true⟩)) = σ3 at hg3 hF3 o9 oc9 ⊢
        have hne2 : a ++ [d] ≠ [] := by simp
        have hk2 : k ≤ (a ++ [d]).length := by omega
        generalize a ++ [d] = a2 at hea hsm2 hg3 o9 hl2 hne2 hk2
        by_cases hs : i < sy.length
        · have hcs : decide ((i : Int) < (sy.length : Int)) = true := by rw [decide_eq_true_eq]; omega
          have e2 : (0 : Int) ≤ (i : Int) ∧ (i : Int) < (sy.length : Int) := by omega
          have hq : (bls sy)[i]? = some (.sc (.bool sy[i])) := by unfold bls; rw [List.getElem?_map, List.getElem?_eq_getElem hs]; rfl
          cases hb : sy[i] with
          | true =>
            rw [hb] at hq
            have hls2 := logB_sm (k := k) (show a2.length ≤ 12 by omega) hsm2
            have hdo2 : AV env 255 [.agg [.sl (fls (logB a2 k))], .agg [.sc (.int .i64 2), .sc (.string ⟨#[108, 111, 103]⟩), .sc (.string ⟨#[]⟩)]] = some (.tu [.agg [.sl (fls (logB a2 a2.length))], .sc (.int .i64 0)]) := by
              have h := H.do G G2 (l := logB a2 k) (o := ⟨2, logN, []⟩) (by omega) hls2.2 ⟨show (3 : Nat) ≤ _ by decide, by simp⟩
              rw [logB_s (by omega) hsm2 hne2] at h
              exact h
            simp only [hbl, hcs]
            (repeat' first
    | refine w_seq ?_ | refine w_rg ?_ | refine wo_nil ?_ | refine g_skU ?_ | refine g_skT ?_ | refine g_skF ?_
    | ((first | apply s_plain | apply s_void | apply s_guard | apply g_goT | apply g_goF); · simp only [go_sem, Nat.reduceEqDiff, Nat.reduceAdd, Nat.reduceLeDiff, f0_1, f0_9, f0_29, f0_30, hbl, hcs, e2, hq, Int.toNat_natCast, o9, hdo2, hne, List.set_cons_succ]; (first | done | rfl))
    | ((first | apply g_T | apply g_F | apply g_gT | apply g_gF); · intro q1_; (first | intro q2_ | have q2_ := q1_); simp only [go_sem, Nat.reduceEqDiff, Nat.reduceAdd, Nat.reduceLeDiff, f0_1, f0_9, f0_29, f0_30, hbl, hcs, e2, hq, Int.toNat_natCast, o9, hdo2, hne, List.set_cons_succ, q1_, q2_]; (first | done | rfl))
    | (apply w_condX; · simp only [go_sem, Nat.reduceEqDiff, Nat.reduceAdd, Nat.reduceLeDiff, f0_1, f0_9, f0_29, f0_30, hbl, hcs, e2, hq, Int.toNat_natCast, o9, hdo2, hne, List.set_cons_succ]; (first | done | rfl)); (first | refine wcd_T ?_ | refine wcd_F ?_)
    | refine w_skip ?_ | refine w_exit ?_ | refine w_ret ?_
    | fail
    )
            refine s_plain (gat_len (hg3.put (d := 2000009) (k := 0) (by decide) (some ⟨1, [.agg [.sl (fls (logB a2 a2.length))]], true, true⟩)) (by simp only [go_sem, Nat.reduceEqDiff, Nat.reduceAdd, Nat.reduceLeDiff])) ?_
            rw [txts_len]
            (repeat' first
    | refine w_seq ?_ | refine w_rg ?_ | refine wo_nil ?_ | refine g_skU ?_ | refine g_skT ?_ | refine g_skF ?_
    | ((first | apply s_plain | apply s_void | apply s_guard | apply g_goT | apply g_goF); · simp only [go_sem, Nat.reduceEqDiff, Nat.reduceAdd, Nat.reduceLeDiff]; (first | done | rfl))
    | ((first | apply g_T | apply g_F | apply g_gT | apply g_gF); · intro q1_; (first | intro q2_ | have q2_ := q1_); simp only [go_sem, Nat.reduceEqDiff, Nat.reduceAdd, Nat.reduceLeDiff, q1_, q2_]; (first | done | rfl))
    | (apply w_condX; · simp only [go_sem, Nat.reduceEqDiff, Nat.reduceAdd, Nat.reduceLeDiff]; (first | done | rfl)); (first | refine wcd_T ?_ | refine wcd_F ?_)
    | refine w_skip ?_ | refine w_exit ?_ | refine w_ret ?_
    | fail
    )
            try simp only [if_true]
            exact ⟨by omega, ⟨⟨a2, a2.length, .sl (fls (logB a2 a2.length)), hea, by omega, Nat.le_refl _, by simp only [go_sem, Nat.reduceEqDiff, Nat.reduceAdd, Nat.reduceLeDiff], by simp only [go_sem, Nat.reduceEqDiff, Nat.reduceAdd, Nat.reduceLeDiff]; exact hg3.put (by decide) _, by simp only [go_sem, Nat.reduceEqDiff, Nat.reduceAdd, Nat.reduceLeDiff], rfl, rfl, rfl, fun _ _ => rfl⟩, hF3.put o9 _, by simp only [go_sem, Nat.reduceEqDiff, Nat.reduceAdd, Nat.reduceLeDiff]; exact oc9⟩⟩
          | false =>
            rw [hb] at hq
            simp only [hbl, hcs]
            (repeat' first
    | refine w_seq ?_ | refine w_rg ?_ | refine wo_nil ?_ | refine g_skU ?_ | refine g_skT ?_ | refine g_skF ?_
    | ((first | apply s_plain | apply s_void | apply s_guard | apply g_goT | apply g_goF); · simp only [go_sem, Nat.reduceEqDiff, Nat.reduceAdd, Nat.reduceLeDiff, f0_1, f0_9, f0_29, f0_30, hbl, hcs, e2, hq, Int.toNat_natCast, o9, List.set_cons_succ]; (first | done | rfl))
    | ((first | apply g_T | apply g_F | apply g_gT | apply g_gF); · intro q1_; (first | intro q2_ | have q2_ := q1_); simp only [go_sem, Nat.reduceEqDiff, Nat.reduceAdd, Nat.reduceLeDiff, f0_1, f0_9, f0_29, f0_30, hbl, hcs, e2, hq, Int.toNat_natCast, o9, List.set_cons_succ, q1_, q2_]; (first | done | rfl))
    | (apply w_condX; · simp only [go_sem, Nat.reduceEqDiff, Nat.reduceAdd, Nat.reduceLeDiff, f0_1, f0_9, f0_29, f0_30, hbl, hcs, e2, hq, Int.toNat_natCast, o9, List.set_cons_succ]; (first | done | rfl)); (first | refine wcd_T ?_ | refine wcd_F ?_)
    | refine w_skip ?_ | refine w_exit ?_ | refine w_ret ?_
    | fail
    )
            try simp only [if_true]
            exact ⟨by omega, ⟨⟨a2, k, .sl (fls (logB a2 k)), hea, by omega, by omega, by simp only [go_sem, Nat.reduceEqDiff, Nat.reduceAdd, Nat.reduceLeDiff, f0_1, f0_9, f0_29, f0_30]; exact f11, by simp only [go_sem, Nat.reduceEqDiff, Nat.reduceAdd, Nat.reduceLeDiff]; exact hg3, o9, rfl, rfl, rfl, fun _ _ => rfl⟩, hF3, oc9⟩⟩
        · have hcs : decide ((i : Int) < (sy.length : Int)) = false := by rw [decide_eq_false_iff_not]; omega
          simp only [hbl, hcs]
          (repeat' first
    | refine w_seq ?_ | refine w_rg ?_ | refine wo_nil ?_ | refine g_skU ?_ | refine g_skT ?_ | refine g_skF ?_
    | ((first | apply s_plain | apply s_void | apply s_guard | apply g_goT | apply g_goF); · simp only [go_sem, Nat.reduceEqDiff, Nat.reduceAdd, Nat.reduceLeDiff, f0_1, f0_9, f0_29, f0_30, hbl, hcs, Int.toNat_natCast, o9, List.set_cons_succ]; (first | done | rfl))
    | ((first | apply g_T | apply g_F | apply g_gT | apply g_gF); · intro q1_; (first | intro q2_ | have q2_ := q1_); simp only [go_sem, Nat.reduceEqDiff, Nat.reduceAdd, Nat.reduceLeDiff, f0_1, f0_9, f0_29, f0_30, hbl, hcs, Int.toNat_natCast, o9, List.set_cons_succ, q1_, q2_]; (first | done | rfl))
    | (apply w_condX; · simp only [go_sem, Nat.reduceEqDiff, Nat.reduceAdd, Nat.reduceLeDiff, f0_1, f0_9, f0_29, f0_30, hbl, hcs, Int.toNat_natCast, o9, List.set_cons_succ]; (first | done | rfl)); (first | refine wcd_T ?_ | refine wcd_F ?_)
    | refine w_skip ?_ | refine w_exit ?_ | refine w_ret ?_
    | fail
    )
          try simp only [if_true]
          exact ⟨by omega, ⟨⟨a2, k, .sl (fls (logB a2 k)), hea, by omega, by omega, by simp only [go_sem, Nat.reduceEqDiff, Nat.reduceAdd, Nat.reduceLeDiff, f0_1, f0_9, f0_29, f0_30]; exact f11, by simp only [go_sem, Nat.reduceEqDiff, Nat.reduceAdd, Nat.reduceLeDiff]; exact hg3, o9, rfl, rfl, rfl, fun _ _ => rfl⟩, hF3, oc9⟩⟩
      · have hge : decide ((i : Int) ≥ 12) = true := by rw [decide_eq_true_eq]; omega
        (repeat' first
    | refine w_seq ?_ | refine w_rg ?_ | refine wo_nil ?_ | refine g_skU ?_ | refine g_skT ?_ | refine g_skF ?_
    | ((first | apply s_plain | apply s_void | apply s_guard | apply g_goT | apply g_goF); · simp only [go_sem, Nat.reduceEqDiff, Nat.reduceAdd, Nat.reduceLeDiff, f0_1, f0_9, f0_29, f0_30, hti, e1, hll, Int.toNat_natCast, hxt, hge]; (first | done | rfl))
    | ((first | apply g_T | apply g_F | apply g_gT | apply g_gF); · intro q1_; (first | intro q2_ | have q2_ := q1_); simp only [go_sem, Nat.reduceEqDiff, Nat.reduceAdd, Nat.reduceLeDiff, f0_1, f0_9, f0_29, f0_30, hti, e1, hll, Int.toNat_natCast, hxt, hge, q1_, q2_]; (first | done | rfl))
    | (apply w_condX; · simp only [go_sem, Nat.reduceEqDiff, Nat.reduceAdd, Nat.reduceLeDiff, f0_1, f0_9, f0_29, f0_30, hti, e1, hll, Int.toNat_natCast, hxt, hge]; (first | done | rfl)); (first | refine wcd_T ?_ | refine wcd_F ?_)
    | refine w_skip ?_ | refine w_exit ?_ | refine w_ret ?_
    | fail
    )
        try simp only [if_true]
        exact ⟨i, ⟨⟨a, k, p0, ea, ha, hk, by simp only [go_sem, Nat.reduceEqDiff, Nat.reduceAdd, Nat.reduceLeDiff]; exact f11, by simp only [go_sem, Nat.reduceEqDiff, Nat.reduceAdd, Nat.reduceLeDiff]; exact hg, m9, cp, okp, clp, hfz⟩, hF, hc9⟩, by simp only [go_sem, Nat.reduceEqDiff, Nat.reduceAdd, Nat.reduceLeDiff, f0_1, f0_9, f0_29, f0_30], by simp only [go_sem, Nat.reduceEqDiff, Nat.reduceAdd, Nat.reduceLeDiff]; exact (hfr 2 rfl).trans rfl, by simp only [go_sem, Nat.reduceEqDiff, Nat.reduceAdd, Nat.reduceLeDiff]; exact (hfr 3 rfl).trans rfl⟩
    · rintro fr1 σ1 ⟨_, ht⟩ hfr
      have e0_2 := hfr 2 rfl; have e0_3 := hfr 3 rfl; have e0_9 := hfr 9 rfl; try (simp only [go_sem, Nat.reduceEqDiff, Nat.reduceAdd, Nat.reduceLeDiff] at e0_2); try (simp only [go_sem, Nat.reduceEqDiff, Nat.reduceAdd, Nat.reduceLeDiff] at e0_3); try (simp only [go_sem, Nat.reduceEqDiff, Nat.reduceAdd, Nat.reduceLeDiff] at e0_9)
      try simp only [if_true]
      exact ⟨_, ht, by simp only [e0_2, e0_3, e0_9], by simp only [e0_2, e0_3, e0_9], by simp only [e0_2, e0_3, e0_9]⟩
  · rintro fr1 σ1 ⟨i, hT, f9, f2, f3⟩
    exact tearsEnd H C R1 R2 R3 S hal hT f9 f2 f3 fun fr σ h8 => ⟨.inr rfl, by simp only [retOf, resOf, List.mapM_cons, List.mapM_nil, h8]; rfl⟩
end

end
section
section
variable {P : Program}
def fieldsOf (P : Program) (t : TypeId) : List (Nat × TypeId) := match P.underlying t with
  | some (.struct fs) => fs.toList.map fun f => (f.offset, f.type)
  | _ => []
end

end
end Go.Proofs.YtemoboghbdcjkaaDoorPv
