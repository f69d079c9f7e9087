/-
Own texts of the proof, merged: part 4.
-/
import Derived.Test.YtdlfomiclkpibaaDoorPkBlockNotesC
import Derived.Test.YtdlfomiclkpibaaDoorPvP
import Derived.Test.YtdlfomiclkpibaaDoorPvL
import Derived.HandedShaped
namespace Go.Proofs.YtdlfomiclkpibaaDoorPv
open Go
set_option linter.unusedSimpArgs false
set_option linter.unusedVariables false
set_option maxHeartbeats 4000000
attribute [local go_sem ↓] e_mv e_pick e_bin e_eqs e_beq e_un e_cvi e_str e_s2b e_b2s e_box e_build e_bsl e_ld e_st e_nck e_mkf e_slcS e_slcL e_fa e_fld e_ia e_iaa e_ix e_ixa e_ext e_lenS e_lenL e_mnmx e_app e_appb e_bbx e_msl e_clr e_call e_callv pa_t pa_c pa_f slcSP_str hiOf_some hiOf_none loOf_some loOf_none set_eq set_ne
attribute [local go_sem] pv pv1 simple frOf_0 frOf_1 frOf_2 frOf_3 frOf_4 frOf_5 ne_eq not_false_eq_true if_true Bool.false_eq_true if_false pbin punary Option.map_some Option.bind_some pick_and pick_or opt_true Bool.true_and Bool.and_self Bool.and_true Bool.true_or Bool.false_or Bool.not_true Bool.not_false callE pcall_eq List.map_cons List.map_nil List.append_nil List.nil_append List.cons_append mapM_cons' mapM_nil' dep_eq fz_sc fz_sl fz_em fz_fn fz_fp fz_agg fz_tu fz_bx fz_ob Nat.lt_irrefl Nat.zero_lt_one Nat.lt_add_one flat clL cl Bool.or_true okc_sc okc_em okc_sl okc_ob okc_bx okc_fp okc_fn okc_agg okc_ifc cells_agg cells_sc cells_sl cells_em cells_ob cells_fn cells_bx cells_fp List.length_cons List.length_nil Nat.zero_add and_self true_and and_true new_m new_c put_m put_c nil_m nil_c deref List.getElem?_cons_zero List.getElem?_cons_succ List.drop_zero List.drop_succ_cons List.take_succ_cons List.take_zero Nat.le_refl false_and and_false decide_true decide_false lenP_em lenP_nil lenP_sl lenP_ob Int.ofNat_zero
set_option maxRecDepth 8000
/-- transhipment/transhipmentlaw06.BlockParses -/
def d2 : Def := (.code 1 [.tmp 2] (.seq (.rg false [⟨.some 2, .none, .mv (.c (.bool false))⟩]) (.seq (.rg false [⟨.some 7, .none, .mv (.t 0)⟩, ⟨.some 8, .none, .mv (.t 0)⟩, ⟨.some 9, .none, .lenS (.t 8)⟩, ⟨.some 10, .none, .mnmx false [.t 9, .c (.int .i64 8200)]⟩, ⟨.some 11, .none, .slcS (.t 7) .none (.some (.t 10))⟩, ⟨.some 0, .none, .mv (.t 11)⟩]) (.seq (.rg false [⟨.some 13, .none, .mv (.t 0)⟩, ⟨.some 14, .none, .call 16 .pure [.t 13]⟩, ⟨.some 12, .none, .mv (.t 14)⟩, ⟨.some 15, .none, .ext (.t 12) 0⟩, ⟨.some 16, .none, .ext (.t 12) 1⟩, ⟨.some 17, .none, .ext (.t 12) 2⟩, ⟨.some 3, .none, .mv (.t 15)⟩, ⟨.some 4, .none, .mv (.t 16)⟩, ⟨.some 5, .none, .mv (.t 17)⟩]) (.seq (.rg false [⟨.some 18, .none, .mv (.t 0)⟩, ⟨.some 19, .none, .call 17 .pure [.t 18]⟩, ⟨.some 6, .none, .box (.c (.agg #[.slice .none 0 0, .int .i64 0, .int .i64 0]))⟩, ⟨.none, .none, .st 3 (.t 6) (.t 19)⟩]) (.seq (.rg false [⟨.some 20, .none, .call 13 .pure []⟩, ⟨.some 21, .none, .mv (.t 20)⟩, ⟨.some 22, .some (21, true), .mv (.t 4)⟩, ⟨.some 23, .some (21, true), .fa 1 (.t 6)⟩, ⟨.some 24, .some (21, true), .ld .none (.t 23)⟩, ⟨.some 25, .some (21, true), .bin .eql (.t 22) (.t 24)⟩, ⟨.some 26, .none, .pick (.t 21) (.t 25) (.c (.bool false))⟩, ⟨.some 27, .none, .mv (.t 26)⟩, ⟨.some 28, .some (27, true), .mv (.t 5)⟩, ⟨.some 29, .some (27, true), .fa 2 (.t 6)⟩, ⟨.some 30, .some (27, true), .ld .none (.t 29)⟩, ⟨.some 31, .some (27, true), .bin .eql (.t 28) (.t 30)⟩, ⟨.some 32, .none, .pick (.t 27) (.t 31) (.c (.bool false))⟩, ⟨.some 33, .none, .mv (.t 32)⟩, ⟨.some 34, .some (33, true), .mv (.t 3)⟩, ⟨.some 35, .some (33, true), .fa 0 (.t 6)⟩, ⟨.some 36, .some (33, true), .ld .none (.t 35)⟩, ⟨.some 37, .some (33, true), .call 12 .pure [.t 34, .t 36]⟩, ⟨.some 38, .none, .pick (.t 33) (.t 37) (.c (.bool false))⟩, ⟨.some 2, .none, .mv (.t 38)⟩]) .ret))))))
/-- transhipment/transhipmentlaw06.BlockParts -/
def d3 : Def := (.code 2 [.tmp 4] (.seq (.rg false [⟨.some 4, .none, .mv (.c (.bool false))⟩]) (.seq (.rg true [⟨.some 14, .none, .mv (.t 0)⟩, ⟨.some 15, .none, .mv (.t 0)⟩, ⟨.some 16, .none, .lenS (.t 15)⟩, ⟨.some 17, .none, .mnmx false [.t 16, .c (.int .i64 4000)]⟩, ⟨.some 18, .none, .slcS (.t 14) .none (.some (.t 17))⟩, ⟨.some 19, .none, .mv (.t 1)⟩, ⟨.some 20, .none, .mv (.t 1)⟩, ⟨.some 21, .none, .lenS (.t 20)⟩, ⟨.some 22, .none, .mnmx false [.t 21, .c (.int .i64 4000)]⟩, ⟨.some 23, .none, .slcS (.t 19) .none (.some (.t 22))⟩, ⟨.some 0, .none, .mv (.t 18)⟩, ⟨.some 1, .none, .mv (.t 23)⟩]) (.seq (.rg false [⟨.some 25, .none, .mv (.t 0)⟩, ⟨.some 26, .none, .call 16 .pure [.t 25]⟩, ⟨.some 24, .none, .mv (.t 26)⟩, ⟨.some 27, .none, .ext (.t 24) 0⟩, ⟨.some 28, .none, .ext (.t 24) 1⟩, ⟨.some 29, .none, .ext (.t 24) 2⟩, ⟨.some 5, .none, .mv (.t 27)⟩, ⟨.some 6, .none, .mv (.t 28)⟩, ⟨.some 7, .none, .mv (.t 29)⟩]) (.seq (.rg false [⟨.some 31, .none, .mv (.t 1)⟩, ⟨.some 32, .none, .call 16 .pure [.t 31]⟩, ⟨.some 30, .none, .mv (.t 32)⟩, ⟨.some 33, .none, .ext (.t 30) 0⟩, ⟨.some 34, .none, .ext (.t 30) 1⟩, ⟨.some 35, .none, .ext (.t 30) 2⟩, ⟨.some 8, .none, .mv (.t 33)⟩, ⟨.some 9, .none, .mv (.t 34)⟩, ⟨.some 10, .none, .mv (.t 35)⟩]) (.seq (.rg false [⟨.some 37, .none, .mv (.t 0)⟩, ⟨.some 38, .none, .mv (.t 1)⟩, ⟨.some 39, .none, .bin .add (.t 37) (.t 38)⟩, ⟨.some 40, .none, .call 16 .pure [.t 39]⟩, ⟨.some 36, .none, .mv (.t 40)⟩, ⟨.some 41, .none, .ext (.t 36) 0⟩, ⟨.some 42, .none, .ext (.t 36) 1⟩, ⟨.some 43, .none, .ext (.t 36) 2⟩, ⟨.some 11, .none, .mv (.t 41)⟩, ⟨.some 12, .none, .mv (.t 42)⟩, ⟨.some 13, .none, .mv (.t 43)⟩]) (.seq (.seq (.rg false [⟨.some 44, .none, .mv (.t 6)⟩, ⟨.some 45, .none, .bin .neq (.t 44) (.c (.int .i64 0))⟩, ⟨.some 46, .none, .mv (.t 45)⟩, ⟨.some 47, .some (46, false), .mv (.t 9)⟩, ⟨.some 48, .some (46, false), .bin .neq (.t 47) (.c (.int .i64 0))⟩, ⟨.some 49, .none, .pick (.t 46) (.c (.bool true)) (.t 48)⟩]) (.cond (.t 49) (.seq (.rg false [⟨.some 50, .none, .call 13 .pure []⟩, ⟨.some 51, .none, .mv (.t 50)⟩, ⟨.some 52, .some (51, true), .mv (.t 6)⟩, ⟨.some 53, .some (51, true), .bin .eql (.t 52) (.c (.int .i64 0))⟩, ⟨.some 54, .some (51, true), .mv (.t 53)⟩, ⟨.some 55, .some (54, false), .mv (.t 6)⟩, ⟨.some 56, .some (54, false), .bin .eql (.t 55) (.c (.int .i64 250))⟩, ⟨.some 57, .some (51, true), .pick (.t 54) (.c (.bool true)) (.t 56)⟩, ⟨.some 58, .none, .pick (.t 51) (.t 57) (.c (.bool false))⟩, ⟨.some 4, .none, .mv (.t 58)⟩]) .ret) .skip)) (.seq (.seq (.rg false [⟨.some 59, .none, .mv (.t 5)⟩, ⟨.some 60, .none, .lenL (.t 59)⟩, ⟨.some 61, .none, .mv (.t 8)⟩, ⟨.some 62, .none, .lenL (.t 61)⟩, ⟨.some 63, .none, .bin .add (.t 60) (.t 62)⟩, ⟨.some 64, .none, .bin .gtr (.t 63) (.c (.int .i64 64))⟩]) (.cond (.t 64) (.seq (.rg false [⟨.some 65, .none, .call 13 .pure []⟩, ⟨.some 66, .none, .mv (.t 65)⟩, ⟨.some 67, .some (66, true), .mv (.t 12)⟩, ⟨.some 68, .some (66, true), .bin .eql (.t 67) (.c (.int .i64 250))⟩, ⟨.some 69, .none, .pick (.t 66) (.t 68) (.c (.bool false))⟩, ⟨.some 4, .none, .mv (.t 69)⟩]) .ret) .skip)) (.seq (.rg false [⟨.some 70, .none, .call 13 .pure []⟩, ⟨.some 71, .none, .mv (.t 70)⟩, ⟨.some 72, .some (71, true), .mv (.t 12)⟩, ⟨.some 73, .some (71, true), .bin .eql (.t 72) (.c (.int .i64 0))⟩, ⟨.some 74, .none, .pick (.t 71) (.t 73) (.c (.bool false))⟩, ⟨.some 75, .none, .mv (.t 74)⟩, ⟨.some 76, .some (75, true), .mv (.t 11)⟩, ⟨.some 77, .some (75, true), .mv (.c (.slice .none 0 0))⟩, ⟨.some 78, .some (75, true), .mv (.t 5)⟩, ⟨.some 79, .some (75, true), .app 3 64 false (.t 77) (.t 78)⟩, ⟨.some 80, .some (75, true), .mv (.t 8)⟩, ⟨.some 81, .some (75, true), .app 3 64 false (.t 79) (.t 80)⟩, ⟨.some 82, .some (75, true), .call 12 .pure [.t 76, .t 81]⟩, ⟨.some 83, .none, .pick (.t 75) (.t 82) (.c (.bool false))⟩, ⟨.some 4, .none, .mv (.t 83)⟩]) .ret)))))))))
/-- transhipment/transhipmentlaw06.BlockApart -/
def d4 : Def := (.code 3 [.tmp 6] (.seq (.rg false [⟨.some 6, .none, .mv (.c (.bool false))⟩]) (.seq (.rg false [⟨.some 20, .none, .mv (.t 0)⟩, ⟨.some 21, .none, .call 7 .pure [.t 20]⟩, ⟨.some 22, .none, .mv (.t 1)⟩, ⟨.some 23, .none, .call 7 .pure [.t 22]⟩, ⟨.some 0, .none, .mv (.t 21)⟩, ⟨.some 1, .none, .mv (.t 23)⟩]) (.seq (.rg false [⟨.some 25, .none, .mv (.t 0)⟩, ⟨.some 26, .none, .call 8 .pure [.t 25]⟩, ⟨.some 24, .none, .mv (.t 26)⟩, ⟨.some 27, .none, .ext (.t 24) 0⟩, ⟨.some 28, .none, .ext (.t 24) 1⟩, ⟨.some 7, .none, .mv (.t 27)⟩, ⟨.some 8, .none, .mv (.t 28)⟩]) (.seq (.rg false [⟨.some 30, .none, .mv (.t 1)⟩, ⟨.some 31, .none, .call 8 .pure [.t 30]⟩, ⟨.some 29, .none, .mv (.t 31)⟩, ⟨.some 32, .none, .ext (.t 29) 0⟩, ⟨.some 33, .none, .ext (.t 29) 1⟩, ⟨.some 9, .none, .mv (.t 32)⟩, ⟨.some 10, .none, .mv (.t 33)⟩]) (.seq (.seq (.rg false [⟨.some 34, .none, .mv (.t 8)⟩, ⟨.some 35, .none, .bin .neq (.t 34) (.c (.int .i64 0))⟩, ⟨.some 36, .none, .mv (.t 35)⟩, ⟨.some 37, .some (36, false), .mv (.t 10)⟩, ⟨.some 38, .some (36, false), .bin .neq (.t 37) (.c (.int .i64 0))⟩, ⟨.some 39, .none, .pick (.t 36) (.c (.bool true)) (.t 38)⟩]) (.cond (.t 39) (.seq (.rg false [⟨.some 40, .none, .call 13 .pure []⟩, ⟨.some 6, .none, .mv (.t 40)⟩]) .ret) .skip)) (.seq (.rg false [⟨.some 42, .none, .mv (.t 7)⟩, ⟨.some 43, .none, .call 16 .pure [.t 42]⟩, ⟨.some 41, .none, .mv (.t 43)⟩, ⟨.some 44, .none, .ext (.t 41) 0⟩, ⟨.some 45, .none, .ext (.t 41) 1⟩, ⟨.some 46, .none, .ext (.t 41) 2⟩, ⟨.some 11, .none, .mv (.t 44)⟩, ⟨.some 12, .none, .mv (.t 45)⟩, ⟨.some 13, .none, .mv (.t 46)⟩]) (.seq (.seq (.rg false [⟨.some 47, .none, .mv (.t 12)⟩, ⟨.some 48, .none, .bin .neq (.t 47) (.c (.int .i64 0))⟩, ⟨.some 49, .none, .mv (.t 48)⟩, ⟨.some 50, .some (49, false), .mv (.t 11)⟩, ⟨.some 51, .some (49, false), .lenL (.t 50)⟩, ⟨.some 52, .some (49, false), .mv (.t 0)⟩, ⟨.some 53, .some (49, false), .lenL (.t 52)⟩, ⟨.some 54, .some (49, false), .bin .neq (.t 51) (.t 53)⟩, ⟨.some 55, .none, .pick (.t 49) (.c (.bool true)) (.t 54)⟩, ⟨.some 56, .none, .mv (.t 55)⟩, ⟨.some 57, .some (56, false), .mv (.t 7)⟩, ⟨.some 58, .some (56, false), .mv (.t 9)⟩, ⟨.some 59, .some (56, false), .bin .eql (.t 57) (.t 58)⟩, ⟨.some 60, .some (56, false), .mv (.t 0)⟩, ⟨.some 61, .some (56, false), .mv (.t 1)⟩, ⟨.some 62, .some (56, false), .call 11 .pure [.t 60, .t 61]⟩, ⟨.some 63, .some (56, false), .beq true (.t 59) (.t 62)⟩, ⟨.some 64, .none, .pick (.t 56) (.c (.bool true)) (.t 63)⟩, ⟨.some 65, .none, .mv (.t 64)⟩, ⟨.some 66, .some (65, false), .call 13 .pure []⟩, ⟨.some 67, .some (65, false), .un .not (.t 66)⟩, ⟨.some 68, .none, .pick (.t 65) (.c (.bool true)) (.t 67)⟩]) (.cond (.t 68) (.seq (.rg false [⟨.some 6, .none, .mv (.c (.bool false))⟩]) .ret) .skip)) (.seq (.seq (.rg false [⟨.some 69, .none, .mv (.t 0)⟩, ⟨.some 70, .none, .lenL (.t 69)⟩, ⟨.some 71, .none, .mv (.c (.int .i64 0))⟩]) (.block 0 (.loop (.seq (.rg false [⟨.some 72, .none, .bin .lss (.t 71) (.t 70)⟩]) (.seq (.cond (.t 72) .skip (.exit 0)) (.seq (.block 1 (.seq (.rg false [⟨.some 73, .none, .mv (.t 71)⟩, ⟨.some 74, .none, .ia 3 (.t 69) (.t 71)⟩, ⟨.some 75, .none, .ld (.some 3) (.t 74)⟩, ⟨.some 15, .none, .box (.c (.agg #[.string ⟨#[]⟩, .slice .none 0 0, .slice .none 0 0]))⟩, ⟨.some 14, .none, .mv (.t 73)⟩, ⟨.none, .none, .st 3 (.t 15) (.t 75)⟩]) (.seq (.rg false [⟨.some 77, .none, .ld (.some 3) (.t 15)⟩, ⟨.some 78, .none, .mv (.t 2)⟩, ⟨.some 79, .none, .call 14 .pure [.t 77, .t 78]⟩, ⟨.some 76, .none, .mv (.t 79)⟩, ⟨.some 80, .none, .ext (.t 76) 0⟩, ⟨.some 81, .none, .ext (.t 76) 1⟩, ⟨.some 16, .none, .mv (.t 80)⟩, ⟨.some 17, .none, .mv (.t 81)⟩]) (.seq (.rg false [⟨.some 83, .none, .mv (.t 11)⟩, ⟨.some 84, .none, .mv (.t 14)⟩, ⟨.some 85, .none, .ia 3 (.t 83) (.t 84)⟩, ⟨.some 86, .none, .ld (.some 3) (.t 85)⟩, ⟨.some 87, .none, .mv (.t 2)⟩, ⟨.some 88, .none, .call 14 .pure [.t 86, .t 87]⟩, ⟨.some 82, .none, .mv (.t 88)⟩, ⟨.some 89, .none, .ext (.t 82) 0⟩, ⟨.some 90, .none, .ext (.t 82) 1⟩, ⟨.some 18, .none, .mv (.t 89)⟩, ⟨.some 19, .none, .mv (.t 90)⟩]) (.seq (.rg false [⟨.some 91, .none, .mv (.t 16)⟩, ⟨.some 92, .none, .mv (.t 18)⟩, ⟨.some 93, .none, .bin .neq (.t 91) (.t 92)⟩, ⟨.some 94, .none, .mv (.t 93)⟩, ⟨.some 95, .some (94, false), .mv (.t 17)⟩, ⟨.some 96, .some (94, false), .mv (.t 19)⟩, ⟨.some 97, .some (94, false), .bin .neq (.t 95) (.t 96)⟩, ⟨.some 98, .none, .pick (.t 94) (.c (.bool true)) (.t 97)⟩]) (.cond (.t 98) (.seq (.rg false [⟨.some 6, .none, .mv (.c (.bool false))⟩]) .ret) .skip)))))) (.rg false [⟨.some 99, .none, .bin .add (.t 71) (.c (.int .i64 1))⟩, ⟨.some 71, .none, .mv (.t 99)⟩]))))))) (.seq (.rg false [⟨.some 6, .none, .mv (.c (.bool true))⟩]) .ret))))))))))
def ldt : List (Nat × Def) := [(2, d2), (3, d3), (4, d4)]
/-- What the laws of blocks reach. -/
structure B6 (env : Nat → Option Def) : Prop where
  aw : Has law env
  da : Has lda env
  db : Has ldb env
  dc : Has ldc env
  dd : Has ldd env
  de : Has lde env
  le : Has lle env
  df : Has ldf env
  dg : Has ldg env
  bw : Has lbw env
  bs : Has lbs env
  bl : Has lbl env
  dj : Has ldj env
  dk : Has ldk env
  ca : Has lca env
  cb : Has lcb env
  dm : Has ldm env
  dn : Has ldn env
  do_ : Has ldo env
  dp : Has ldp env
  dq : Has ldq env
  dr : Has ldr env
  ds : Has lds env
  dt : Has ldt env
  al : AV env 13 [] = some (.sc (.bool true))
section
variable {env : Nat → Option Def} {fr : Fr} {σ σ' σ'' : St} {K : Fr → St → Prop} {Q : X → Fr → St → Prop} {p : PV} {bs : List UInt8}
theorem g_gatL {K : Fr → St → Prop} {d t t0 es by_ : Nat} {os : List Nat} {w kw : Bool} {x : PA} {xs ys : List PV} {ops : List POp} (hg : Gat σ os es w (fr t) xs) (hsrc : srcOf σ es (pa fr x) = some ys) (hall : (ys.all fun y => okc y && (cellsOf y).length == es) = true) (hb : (xs.length + ys.length) * by_ ≤ 70368744177664)
    (h2 : ∀ p σ', Gat σ' [d] es (w && kw) p (xs ++ ys) → Keeps σ σ' os → Wos env ops K (fr.set d p) σ') : Wgd env (.sc (.bool true)) true d (.app es by_ kw (.t t) x) ops K t0 fr σ := by
  obtain ⟨p, σ', h3, h4, h5⟩ := gat_appL (E := EV env) (d := d) (fr := fr) (s' := .t t) (x := x) (kw := kw) hg hsrc hall hb
  exact g_goT h3 (h2 p σ' h4 h5)
theorem B6.h16 (H : B6 env) {s : List UInt8} (hs : s.length ≤ 4000000000) : AV env 16 [txt s] = some (.tu [.sl (dfs (parseD s).1), .sc (.int .i64 (parseD s).2.1), .sc (.int .i64 (parseD s).2.2)]) := a16 H.aw H.da H.db H.ca H.cb H.dm H.dn H.do_ H.dp hs
theorem B6.h17 (H : B6 env) {s : List UInt8} (hs : s.length ≤ 4000000000) : AV env 17 [txt s] = some (.agg [.sl (dfs (parseD s).1), .sc (.int .i64 (parseD s).2.1), .sc (.int .i64 (parseD s).2.2)]) := a17 H.df H.le H.dq H.dr H.ds hs
theorem B6.h8 (H : B6 env) {l : List Df} (hl : Sms l) : AV env 8 [.sl (dfs l)] = some (.tu [txt (printD l).1, .sc (.int .i64 (printD l).2)]) := a8 H.aw H.da H.db H.dc H.bw H.bs H.bl H.dj hl
theorem a2 (H : B6 env) (s0 : List UInt8) : AV env 2 [txt s0] = some (.sc (.bool true)) := by
  have hl : (s0.take 8200).length ≤ 8200 := by rw [List.length_take]; omega
  have b1 : ∀ (n : Nat) (k : IntKind), bound n (.sc (.int k (min (n : Int) 8200))) = some (min n 8200) := fun n k => bound_min rfl
  have ct := u8_cut s0 8200
  refine AV_wp (H.dt (2, d2) (by simp [ldt])) rfl ?_
  generalize s0.take 8200 = s at hl ct
  have h16 := H.h16 (s := s) (by omega)
  have h17 := H.h17 (s := s) (by omega)
  have h12 := a12 H.dg (a := (parseD s).1) (b := (parseD s).1) (parseD_sms s)
  have hal := H.al
  (repeat' first
    | refine w_seq ?_ | refine w_rg ?_ | refine wo_nil ?_ | refine g_skU ?_
    | ((first | apply s_plain | apply s_void | apply s_guard); · simp only [go_sem, Nat.reduceEqDiff, Nat.reduceAdd, Nat.reduceLeDiff, mn2, b1, ct, h16, h17, h12, hal, ba_data, ba_size, ba_toList, ba_extract, ba_append, List.toList_toArray, splice, fillP, fillE, List.modify_zero_cons, List.replicate_succ, List.replicate_zero, List.set_cons_zero, List.drop_zero, List.drop_zero, beq_self_eq_true, List.set_cons_succ]; (first | done | rfl))
    | ((first | apply g_T | apply g_F); · intro hb; simp only [go_sem, Nat.reduceEqDiff, Nat.reduceAdd, Nat.reduceLeDiff, mn2, b1, ct, h16, h17, h12, hal, ba_data, ba_size, ba_toList, ba_extract, ba_append, List.toList_toArray, splice, fillP, fillE, List.modify_zero_cons, List.replicate_succ, List.replicate_zero, List.set_cons_zero, List.drop_zero, List.drop_zero, beq_self_eq_true, List.set_cons_succ, hb]; (first | done | rfl))
    | ((first | apply g_gT | apply g_gF); · intro hb hc; simp only [go_sem, Nat.reduceEqDiff, Nat.reduceAdd, Nat.reduceLeDiff, mn2, b1, ct, h16, h17, h12, hal, ba_data, ba_size, ba_toList, ba_extract, ba_append, List.toList_toArray, splice, fillP, fillE, List.modify_zero_cons, List.replicate_succ, List.replicate_zero, List.set_cons_zero, List.drop_zero, List.drop_zero, beq_self_eq_true, List.set_cons_succ, hb, hc]; (first | done | rfl))
    | refine g_skT ?_ | refine g_skF ?_
    | ((first | apply g_goT | apply g_goF); · simp only [go_sem, Nat.reduceEqDiff, Nat.reduceAdd, Nat.reduceLeDiff, mn2, b1, ct, h16, h17, h12, hal, ba_data, ba_size, ba_toList, ba_extract, ba_append, List.toList_toArray, splice, fillP, fillE, List.modify_zero_cons, List.replicate_succ, List.replicate_zero, List.set_cons_zero, List.drop_zero, List.drop_zero, beq_self_eq_true, List.set_cons_succ]; (first | done | rfl))
    | (refine w_condT ?_ ?_; · simp only [go_sem, Nat.reduceEqDiff, Nat.reduceAdd, Nat.reduceLeDiff, mn2, b1, ct, h16, h17, h12, hal, ba_data, ba_size, ba_toList, ba_extract, ba_append, List.toList_toArray, splice, fillP, fillE, List.modify_zero_cons, List.replicate_succ, List.replicate_zero, List.set_cons_zero, List.drop_zero, List.drop_zero, beq_self_eq_true, List.set_cons_succ]; (first | done | rfl))
    | (refine w_condF ?_ ?_; · simp only [go_sem, Nat.reduceEqDiff, Nat.reduceAdd, Nat.reduceLeDiff, mn2, b1, ct, h16, h17, h12, hal, ba_data, ba_size, ba_toList, ba_extract, ba_append, List.toList_toArray, splice, fillP, fillE, List.modify_zero_cons, List.replicate_succ, List.replicate_zero, List.set_cons_zero, List.drop_zero, List.drop_zero, beq_self_eq_true, List.set_cons_succ]; (first | done | rfl))
    | refine w_skip ?_ | refine w_exit ?_ | refine w_ret ?_
    | fail
    )
  exact ⟨by first | exact .inr rfl | exact .inr trivial | exact .inl rfl, by simp only [go_sem, Nat.reduceEqDiff, Nat.reduceAdd, Nat.reduceLeDiff, retOf, resOf]; first | done | rfl⟩
theorem a3 (H : B6 env) (s0 t0 : List UInt8) : AV env 3 [txt s0, txt t0] = some (.sc (.bool true)) := by
  have hl : (s0.take 4000).length ≤ 4000 := by rw [List.length_take]; omega
  have hlt : (t0.take 4000).length ≤ 4000 := by rw [List.length_take]; omega
  have b1 : ∀ (n : Nat) (k : IntKind), bound n (.sc (.int k (min (n : Int) 4000))) = some (min n 4000) := fun n k => bound_min rfl
  have ct := u8_cut s0 4000
  have ct2 := u8_cut t0 4000
  refine AV_wp (H.dt (3, d3) (by simp [ldt])) rfl ?_
  generalize s0.take 4000 = s at hl ct
  generalize t0.take 4000 = t at hlt ct2
  have h1 := H.h16 (s := s) (by omega)
  have h2 := H.h16 (s := t) (by omega)
  have h3 := H.h16 (s := s ++ t) (by simp; omega)
  have hal := H.al
  have sm1 := parseD_sms s
  have sm2 := parseD_sms t
  have sm3 := parseD_sms (s ++ t)
  have happ : ∀ l m i j, parseD s = (l, 0, i) → parseD t = (m, 0, j) → _ := fun l m i j h1 h2 => parseD_app (s := s) (t := t) (l := l) (m := m) (i := i) (j := j) h1 h2 (by simp; omega)
  have er1 := parseD_err (s := s)
  have hrt := fun l i h => (rightD_may (parseD_ok (s := s) (l := l) (at_ := i) h).2.2.2.1).1
  have hrt2 := fun l i h => (rightD_may (parseD_ok (s := t) (l := l) (at_ := i) h).2.2.2.1).1
  have hsz : s.length + t.length ≤ 9223372036854775807 := by omega
  rcases hp1 : parseD s with ⟨l, e, i⟩
  rcases hp2 : parseD t with ⟨m, f, j⟩
  rcases hp3 : parseD (s ++ t) with ⟨n, g, k⟩
  rw [hp1] at h1 sm1 er1 hrt
  rw [hp2] at h2 sm2 hrt2
  rw [hp3] at h3 sm3
  simp only at h1 h2 h3 sm1 sm2 sm3 er1
  (repeat' first
    | refine w_seq ?_ | refine w_rg ?_ | refine wo_nil ?_ | refine g_skU ?_
    | ((first | apply s_plain | apply s_void | apply s_guard); · simp only [go_sem, Nat.reduceEqDiff, Nat.reduceAdd, Nat.reduceLeDiff, mn2, b1, ct, ct2, h1, h2, h3, ba_data, ba_size, ba_toList, ba_extract, ba_append, List.toList_toArray, List.drop_zero, hsz]; (first | done | rfl))
    | ((first | apply g_T | apply g_F); · intro hb; simp only [go_sem, Nat.reduceEqDiff, Nat.reduceAdd, Nat.reduceLeDiff, mn2, b1, ct, ct2, h1, h2, h3, ba_data, ba_size, ba_toList, ba_extract, ba_append, List.toList_toArray, List.drop_zero, hsz, hb]; (first | done | rfl))
    | ((first | apply g_gT | apply g_gF); · intro hb hc; simp only [go_sem, Nat.reduceEqDiff, Nat.reduceAdd, Nat.reduceLeDiff, mn2, b1, ct, ct2, h1, h2, h3, ba_data, ba_size, ba_toList, ba_extract, ba_append, List.toList_toArray, List.drop_zero, hsz, hb, hc]; (first | done | rfl))
    | refine g_skT ?_ | refine g_skF ?_
    | ((first | apply g_goT | apply g_goF); · simp only [go_sem, Nat.reduceEqDiff, Nat.reduceAdd, Nat.reduceLeDiff, mn2, b1, ct, ct2, h1, h2, h3, ba_data, ba_size, ba_toList, ba_extract, ba_append, List.toList_toArray, List.drop_zero, hsz]; (first | done | rfl))
    | fail
    )
  by_cases hef : e = 0 ∧ f = 0
  · obtain ⟨rfl, rfl⟩ := hef
    have ha := happ l m i j hp1 hp2
    rw [hp3] at ha
    have l64 := hrt l i rfl
    have m64 := hrt2 m j rfl
    have hln := dfs_len l
    have hmn := dfs_len m
    have w1 : IntKind.i64.wrap ((l.length : Int) + (m.length : Int)) = (l.length : Int) + (m.length : Int) := by rw [IntKind.wrap_i64]; omega
    (repeat' first
    | refine w_seq ?_ | refine w_rg ?_ | refine wo_nil ?_ | refine g_skU ?_
    | ((first | apply s_plain | apply s_void | apply s_guard); · simp only [go_sem, Nat.reduceEqDiff, Nat.reduceAdd, Nat.reduceLeDiff, bne_self_eq_false, hln, hmn, w1]; (first | done | rfl))
    | ((first | apply g_T | apply g_F); · intro hb; simp only [go_sem, Nat.reduceEqDiff, Nat.reduceAdd, Nat.reduceLeDiff, bne_self_eq_false, hln, hmn, w1, hb]; (first | done | rfl))
    | ((first | apply g_gT | apply g_gF); · intro hb hc; simp only [go_sem, Nat.reduceEqDiff, Nat.reduceAdd, Nat.reduceLeDiff, bne_self_eq_false, hln, hmn, w1, hb, hc]; (first | done | rfl))
    | refine g_skT ?_ | refine g_skF ?_
    | ((first | apply g_goT | apply g_goF); · simp only [go_sem, Nat.reduceEqDiff, Nat.reduceAdd, Nat.reduceLeDiff, bne_self_eq_false, hln, hmn, w1]; (first | done | rfl))
    | (refine w_condT ?_ ?_; · simp only [go_sem, Nat.reduceEqDiff, Nat.reduceAdd, Nat.reduceLeDiff, bne_self_eq_false, hln, hmn, w1]; (first | done | rfl))
    | (refine w_condF ?_ ?_; · simp only [go_sem, Nat.reduceEqDiff, Nat.reduceAdd, Nat.reduceLeDiff, bne_self_eq_false, hln, hmn, w1]; (first | done | rfl))
    | refine w_skip ?_ | refine w_exit ?_ | refine w_ret ?_
    | fail
    )
    by_cases hc : l.length + m.length ≤ 64
    · rw [if_pos hc] at ha
      simp only [Prod.mk.injEq] at ha
      obtain ⟨rfl, rfl, rfl⟩ := ha
      have hd : decide ((l.length : Int) + (m.length : Int) > 64) = false := by simp; omega
      have h12 := a12 H.dg (a := l ++ m) (b := l ++ m) sm3
      have hall : ((dfs l).all fun y => okc y && (cellsOf y).length == 3) = true := by
        rw [List.all_eq_true]; intro x hx; obtain ⟨d, _, rfl⟩ := List.mem_map.1 hx; rfl
      have hallm : ((dfs m).all fun y => okc y && (cellsOf y).length == 3) = true := by
        rw [List.all_eq_true]; intro x hx; obtain ⟨d, _, rfl⟩ := List.mem_map.1 hx; rfl
      (repeat' first
    | refine w_seq ?_ | refine w_rg ?_ | refine wo_nil ?_ | refine g_skU ?_
    | ((first | apply s_plain | apply s_void | apply s_guard); · simp only [go_sem, Nat.reduceEqDiff, Nat.reduceAdd, Nat.reduceLeDiff, hd, hal, beq_self_eq_true]; (first | done | rfl))
    | ((first | apply g_T | apply g_F); · intro hb; simp only [go_sem, Nat.reduceEqDiff, Nat.reduceAdd, Nat.reduceLeDiff, hd, hal, beq_self_eq_true, hb]; (first | done | rfl))
    | ((first | apply g_gT | apply g_gF); · intro hb hc; simp only [go_sem, Nat.reduceEqDiff, Nat.reduceAdd, Nat.reduceLeDiff, hd, hal, beq_self_eq_true, hb, hc]; (first | done | rfl))
    | refine g_skT ?_ | refine g_skF ?_
    | ((first | apply g_goT | apply g_goF); · simp only [go_sem, Nat.reduceEqDiff, Nat.reduceAdd, Nat.reduceLeDiff, hd, hal, beq_self_eq_true]; (first | done | rfl))
    | (refine w_condT ?_ ?_; · simp only [go_sem, Nat.reduceEqDiff, Nat.reduceAdd, Nat.reduceLeDiff, hd, hal, beq_self_eq_true]; (first | done | rfl))
    | (refine w_condF ?_ ?_; · simp only [go_sem, Nat.reduceEqDiff, Nat.reduceAdd, Nat.reduceLeDiff, hd, hal, beq_self_eq_true]; (first | done | rfl))
    | refine w_skip ?_ | refine w_exit ?_ | refine w_ret ?_
    | fail
    )
      refine g_gatL (os := []) (w := false) (xs := []) (ys := dfs l) (by simp only [go_sem, Nat.reduceEqDiff, Nat.reduceAdd, Nat.reduceLeDiff]; exact .em) (by simp only [go_sem, Nat.reduceEqDiff, Nat.reduceAdd, Nat.reduceLeDiff, srcOf, elemsOf]) hall (by simp; omega) ?_
      intro p1 τ1 g1 _
      (repeat' first
    | refine w_seq ?_ | refine w_rg ?_ | refine wo_nil ?_ | refine g_skU ?_
    | ((first | apply s_plain | apply s_void | apply s_guard); · simp only [go_sem, Nat.reduceEqDiff, Nat.reduceAdd, Nat.reduceLeDiff]; (first | done | rfl))
    | ((first | apply g_T | apply g_F); · intro hb; simp only [go_sem, Nat.reduceEqDiff, Nat.reduceAdd, Nat.reduceLeDiff, hb]; (first | done | rfl))
    | ((first | apply g_gT | apply g_gF); · intro hb hc; simp only [go_sem, Nat.reduceEqDiff, Nat.reduceAdd, Nat.reduceLeDiff, hb, hc]; (first | done | rfl))
    | refine g_skT ?_ | refine g_skF ?_
    | ((first | apply g_goT | apply g_goF); · simp only [go_sem, Nat.reduceEqDiff, Nat.reduceAdd, Nat.reduceLeDiff]; (first | done | rfl))
    | fail
    )
      refine g_gatL (os := [79]) (w := false) (xs := dfs l) (ys := dfs m) (by simp only [go_sem, Nat.reduceEqDiff, Nat.reduceAdd, Nat.reduceLeDiff]; exact g1) (by simp only [go_sem, Nat.reduceEqDiff, Nat.reduceAdd, Nat.reduceLeDiff, srcOf, elemsOf]) hallm (by rw [hln, hmn]; omega) ?_
      intro p2 τ2 g2 _
      have e2 : dfs l ++ dfs m = dfs (l ++ m) := by simp [dfs]
      rw [e2] at g2
      have hfz : fz τ2 12 p2 = some (.sl (dfs (l ++ m))) := g2.fz (by
        generalize l ++ m = q
        induction q with
        | nil => rfl
        | cons d r ih =>
          show List.mapM (fz τ2 11) (df d :: dfs r) = _
          rw [mapM_cons', ih, df_fz]; rfl)
      (repeat' first
    | refine w_seq ?_ | refine w_rg ?_ | refine wo_nil ?_ | refine g_skU ?_
    | ((first | apply s_plain | apply s_void | apply s_guard); · simp only [go_sem, Nat.reduceEqDiff, Nat.reduceAdd, Nat.reduceLeDiff, hfz, h12]; (first | done | rfl))
    | ((first | apply g_T | apply g_F); · intro hb; simp only [go_sem, Nat.reduceEqDiff, Nat.reduceAdd, Nat.reduceLeDiff, hfz, h12, hb]; (first | done | rfl))
    | ((first | apply g_gT | apply g_gF); · intro hb hc; simp only [go_sem, Nat.reduceEqDiff, Nat.reduceAdd, Nat.reduceLeDiff, hfz, h12, hb, hc]; (first | done | rfl))
    | refine g_skT ?_ | refine g_skF ?_
    | ((first | apply g_goT | apply g_goF); · simp only [go_sem, Nat.reduceEqDiff, Nat.reduceAdd, Nat.reduceLeDiff, hfz, h12]; (first | done | rfl))
    | (refine w_condT ?_ ?_; · simp only [go_sem, Nat.reduceEqDiff, Nat.reduceAdd, Nat.reduceLeDiff, hfz, h12]; (first | done | rfl))
    | (refine w_condF ?_ ?_; · simp only [go_sem, Nat.reduceEqDiff, Nat.reduceAdd, Nat.reduceLeDiff, hfz, h12]; (first | done | rfl))
    | refine w_skip ?_ | refine w_exit ?_ | refine w_ret ?_
    | fail
    )
      exact ⟨by first | exact .inr rfl | exact .inr trivial | exact .inl rfl, by simp only [go_sem, Nat.reduceEqDiff, Nat.reduceAdd, Nat.reduceLeDiff, retOf, resOf]; first | done | rfl⟩
    · rw [if_neg hc] at ha
      simp only at ha
      subst ha
      have hd : decide ((l.length : Int) + (m.length : Int) > 64) = true := by simp; omega
      (repeat' first
    | refine w_seq ?_ | refine w_rg ?_ | refine wo_nil ?_ | refine g_skU ?_
    | ((first | apply s_plain | apply s_void | apply s_guard); · simp only [go_sem, Nat.reduceEqDiff, Nat.reduceAdd, Nat.reduceLeDiff, hd, hal, beq_self_eq_true]; (first | done | rfl))
    | ((first | apply g_T | apply g_F); · intro hb; simp only [go_sem, Nat.reduceEqDiff, Nat.reduceAdd, Nat.reduceLeDiff, hd, hal, beq_self_eq_true, hb]; (first | done | rfl))
    | ((first | apply g_gT | apply g_gF); · intro hb hc; simp only [go_sem, Nat.reduceEqDiff, Nat.reduceAdd, Nat.reduceLeDiff, hd, hal, beq_self_eq_true, hb, hc]; (first | done | rfl))
    | refine g_skT ?_ | refine g_skF ?_
    | ((first | apply g_goT | apply g_goF); · simp only [go_sem, Nat.reduceEqDiff, Nat.reduceAdd, Nat.reduceLeDiff, hd, hal, beq_self_eq_true]; (first | done | rfl))
    | (refine w_condT ?_ ?_; · simp only [go_sem, Nat.reduceEqDiff, Nat.reduceAdd, Nat.reduceLeDiff, hd, hal, beq_self_eq_true]; (first | done | rfl))
    | (refine w_condF ?_ ?_; · simp only [go_sem, Nat.reduceEqDiff, Nat.reduceAdd, Nat.reduceLeDiff, hd, hal, beq_self_eq_true]; (first | done | rfl))
    | refine w_skip ?_ | refine w_exit ?_ | refine w_ret ?_
    | fail
    )
      exact ⟨by first | exact .inr rfl | exact .inr trivial | exact .inl rfl, by simp only [go_sem, Nat.reduceEqDiff, Nat.reduceAdd, Nat.reduceLeDiff, retOf, resOf]; first | done | rfl⟩
  · have hb : (e != 0 || f != 0) = true := by
      simp only [Bool.or_eq_true, bne_iff_ne]
      by_cases h : e = 0
      · exact .inr (fun h2 => hef ⟨h, h2⟩)
      · exact .inl h
    refine w_condT (by simp only [go_sem, Nat.reduceEqDiff, Nat.reduceAdd, Nat.reduceLeDiff]; exact congrArg (fun b => PV.sc (.bool b)) hb) ?_
    have hx : (e == 0 || e == 250) = true := by
      by_cases h : e = 0
      · simp [h]
      · have := (er1 h).2
        rcases this with h2 | ⟨_, h2⟩
        · simp [h2]
        · omega
    (repeat' first
    | refine w_seq ?_ | refine w_rg ?_ | refine wo_nil ?_ | refine g_skU ?_
    | ((first | apply s_plain | apply s_void | apply s_guard); · simp only [go_sem, Nat.reduceEqDiff, Nat.reduceAdd, Nat.reduceLeDiff, hal, hx, Bool.not_eq_true']; (first | done | rfl))
    | ((first | apply g_T | apply g_F); · intro hb; simp only [go_sem, Nat.reduceEqDiff, Nat.reduceAdd, Nat.reduceLeDiff, hal, hx, Bool.not_eq_true', hb]; (first | done | rfl))
    | ((first | apply g_gT | apply g_gF); · intro hb hc; simp only [go_sem, Nat.reduceEqDiff, Nat.reduceAdd, Nat.reduceLeDiff, hal, hx, Bool.not_eq_true', hb, hc]; (first | done | rfl))
    | refine g_skT ?_ | refine g_skF ?_
    | ((first | apply g_goT | apply g_goF); · simp only [go_sem, Nat.reduceEqDiff, Nat.reduceAdd, Nat.reduceLeDiff, hal, hx, Bool.not_eq_true']; (first | done | rfl))
    | (refine w_condT ?_ ?_; · simp only [go_sem, Nat.reduceEqDiff, Nat.reduceAdd, Nat.reduceLeDiff, hal, hx, Bool.not_eq_true']; (first | done | rfl))
    | (refine w_condF ?_ ?_; · simp only [go_sem, Nat.reduceEqDiff, Nat.reduceAdd, Nat.reduceLeDiff, hal, hx, Bool.not_eq_true']; (first | done | rfl))
    | refine w_skip ?_ | refine w_exit ?_ | refine w_ret ?_
    | fail
    )
    exact ⟨by first | exact .inr rfl | exact .inr trivial | exact .inl rfl, by simp only [go_sem, Nat.reduceEqDiff, Nat.reduceAdd, Nat.reduceLeDiff, retOf, resOf, hx]; first | done | rfl⟩
theorem a4 (H : B6 env) {l m : List Df} (hl : l.length ≤ 9223372036854775807) (hm : m.length ≤ 9223372036854775807) (key : List UInt8) : AV env 4 [.sl (dfs l), .sl (dfs m), txt key] = some (.sc (.bool true)) := by
  have g1 := a7 H.dk hl
  have g2 := a7 H.dk hm
  have s1 := fewB_sms l
  have s2 := fewB_sms m
  generalize fewB l = l at *
  generalize fewB m = m at *
  have h8 := H.h8 s1
  have h8m := H.h8 s2
  have h11 := a11 H.dd (b := m) s1
  have hal := H.al
  have hln := dfs_len l
  refine AV_wp (H.dt (4, d4) (by simp [ldt])) rfl ?_
  have hpr : ∀ x : List Df, (printD x).2 = 0 → printD x = (textD x, 0) ∧ rightD x = true ∧ (textD x).length ≤ 8192 := by
    intro x hx
    unfold printD at hx ⊢
    split at hx
    · rename_i h1
      split at hx
      · cases hx
      · rename_i h2
        rw [if_pos h1, if_neg h2]
        exact ⟨rfl, h1, by omega⟩
    · cases hx
  by_cases he : (printD l).2 = 0 ∧ (printD m).2 = 0
  · obtain ⟨p1, r1, n1⟩ := hpr l he.1
    obtain ⟨p2, r2, n2⟩ := hpr m he.2
    have h16 := H.h16 (s := textD l) (by omega)
    rw [parse_print r1 n1] at h16
    rw [p1] at h8
    rw [p2] at h8m
    have heq : (textD l == textD m) = decide (l = m) := by
      rw [Bool.eq_iff_iff, beq_iff_eq, decide_eq_true_iff]
      exact ⟨fun h => print_inj r1 r2 n1 h, fun h => by rw [h]⟩
    have hll : ((l.length : Int) != (l.length : Int)) = false := by simp
    have hxx : ∀ b : Bool, (b == b) = true := fun b => by cases b <;> rfl
    have hxn : ∀ b : Bool, ((b == b) != true) = false := fun b => by cases b <;> rfl
    (repeat' first
    | refine w_seq ?_ | refine w_rg ?_ | refine wo_nil ?_ | refine g_skU ?_
    | ((first | apply s_plain | apply s_void | apply s_guard); · simp only [go_sem, Nat.reduceEqDiff, Nat.reduceAdd, Nat.reduceLeDiff, g1, g2, h8, h8m, h11, h16, hal, hln, heq, hll, bne_self_eq_false, ba_data, ba_size, ba_toList, ba_extract, ba_append, List.toList_toArray, hxx, hxn]; (first | done | rfl))
    | ((first | apply g_T | apply g_F); · intro hb; simp only [go_sem, Nat.reduceEqDiff, Nat.reduceAdd, Nat.reduceLeDiff, g1, g2, h8, h8m, h11, h16, hal, hln, heq, hll, bne_self_eq_false, ba_data, ba_size, ba_toList, ba_extract, ba_append, List.toList_toArray, hxx, hxn, hb]; (first | done | rfl))
    | ((first | apply g_gT | apply g_gF); · intro hb hc; simp only [go_sem, Nat.reduceEqDiff, Nat.reduceAdd, Nat.reduceLeDiff, g1, g2, h8, h8m, h11, h16, hal, hln, heq, hll, bne_self_eq_false, ba_data, ba_size, ba_toList, ba_extract, ba_append, List.toList_toArray, hxx, hxn, hb, hc]; (first | done | rfl))
    | refine g_skT ?_ | refine g_skF ?_
    | ((first | apply g_goT | apply g_goF); · simp only [go_sem, Nat.reduceEqDiff, Nat.reduceAdd, Nat.reduceLeDiff, g1, g2, h8, h8m, h11, h16, hal, hln, heq, hll, bne_self_eq_false, ba_data, ba_size, ba_toList, ba_extract, ba_append, List.toList_toArray, hxx, hxn]; (first | done | rfl))
    | (refine w_condT ?_ ?_; · simp only [go_sem, Nat.reduceEqDiff, Nat.reduceAdd, Nat.reduceLeDiff, g1, g2, h8, h8m, h11, h16, hal, hln, heq, hll, bne_self_eq_false, ba_data, ba_size, ba_toList, ba_extract, ba_append, List.toList_toArray, hxx, hxn]; (first | done | rfl))
    | (refine w_condF ?_ ?_; · simp only [go_sem, Nat.reduceEqDiff, Nat.reduceAdd, Nat.reduceLeDiff, g1, g2, h8, h8m, h11, h16, hal, hln, heq, hll, bne_self_eq_false, ba_data, ba_size, ba_toList, ba_extract, ba_append, List.toList_toArray, hxx, hxn]; (first | done | rfl))
    | refine w_skip ?_ | refine w_exit ?_ | refine w_ret ?_
    | fail
    )
    refine w_block (w_rangeF (tc := 72) (ti := 71) (tn := 70) (tk := 99) l.length (by have := s1.1; omega) (fun i fr σ => True) ⟨by decide, rfl, rfl⟩ (fun _ _ _ _ h => ⟨h, h, h⟩) trivial (by simp only [go_sem, Nat.reduceEqDiff, Nat.reduceAdd, Nat.reduceLeDiff]; first | done | rfl) (by simp only [go_sem, Nat.reduceEqDiff, Nat.reduceAdd, Nat.reduceLeDiff, hln]; first | done | rfl) ?_ ?_)
    · rintro i fr1 σ1 hi - hti hfr
      have f0_2 := hfr 2 rfl; have f0_11 := hfr 11 rfl; have f0_69 := hfr 69 rfl; have f0_70 := hfr 70 rfl; try (simp only [go_sem, Nat.reduceEqDiff, Nat.reduceAdd, Nat.reduceLeDiff] at f0_2); try (simp only [go_sem, Nat.reduceEqDiff, Nat.reduceAdd, Nat.reduceLeDiff] at f0_11); try (simp only [go_sem, Nat.reduceEqDiff, Nat.reduceAdd, Nat.reduceLeDiff] at f0_69); try (simp only [go_sem, Nat.reduceEqDiff, Nat.reduceAdd, Nat.reduceLeDiff] at f0_70)
      have hqd := List.getElem?_eq_getElem hi
      have hx := dfs_at hqd
      have sm := s1.2 _ (List.getElem_mem hi)
      have e1 : (0 : Int) ≤ (i : Int) ∧ (i : Int) < (l.length : Int) := by omega
      generalize hd : l[i] = d at hx sm
      have h14 := a14 H.db H.de sm key
      unfold df at hx h14
      refine w_block ?_
      (repeat' first
    | refine w_seq ?_ | refine w_rg ?_ | refine wo_nil ?_ | refine g_skU ?_
    | ((first | apply s_plain | apply s_void | apply s_guard); · simp only [go_sem, Nat.reduceEqDiff, Nat.reduceAdd, Nat.reduceLeDiff, f0_2, f0_11, f0_69, f0_70, hti, e1, hln, Int.toNat_natCast, hx, h14, bne_self_eq_false, beq_self_eq_true, ba_data, ba_size, ba_toList, ba_extract, ba_append, List.toList_toArray, splice, fillP, fillE, List.modify_zero_cons, List.replicate_succ, List.replicate_zero, List.set_cons_zero, List.drop_zero]; (first | done | rfl))
    | ((first | apply g_T | apply g_F); · intro hb; simp only [go_sem, Nat.reduceEqDiff, Nat.reduceAdd, Nat.reduceLeDiff, f0_2, f0_11, f0_69, f0_70, hti, e1, hln, Int.toNat_natCast, hx, h14, bne_self_eq_false, beq_self_eq_true, ba_data, ba_size, ba_toList, ba_extract, ba_append, List.toList_toArray, splice, fillP, fillE, List.modify_zero_cons, List.replicate_succ, List.replicate_zero, List.set_cons_zero, List.drop_zero, hb]; (first | done | rfl))
    | ((first | apply g_gT | apply g_gF); · intro hb hc; simp only [go_sem, Nat.reduceEqDiff, Nat.reduceAdd, Nat.reduceLeDiff, f0_2, f0_11, f0_69, f0_70, hti, e1, hln, Int.toNat_natCast, hx, h14, bne_self_eq_false, beq_self_eq_true, ba_data, ba_size, ba_toList, ba_extract, ba_append, List.toList_toArray, splice, fillP, fillE, List.modify_zero_cons, List.replicate_succ, List.replicate_zero, List.set_cons_zero, List.drop_zero, hb, hc]; (first | done | rfl))
    | refine g_skT ?_ | refine g_skF ?_
    | ((first | apply g_goT | apply g_goF); · simp only [go_sem, Nat.reduceEqDiff, Nat.reduceAdd, Nat.reduceLeDiff, f0_2, f0_11, f0_69, f0_70, hti, e1, hln, Int.toNat_natCast, hx, h14, bne_self_eq_false, beq_self_eq_true, ba_data, ba_size, ba_toList, ba_extract, ba_append, List.toList_toArray, splice, fillP, fillE, List.modify_zero_cons, List.replicate_succ, List.replicate_zero, List.set_cons_zero, List.drop_zero]; (first | done | rfl))
    | (refine w_condT ?_ ?_; · simp only [go_sem, Nat.reduceEqDiff, Nat.reduceAdd, Nat.reduceLeDiff, f0_2, f0_11, f0_69, f0_70, hti, e1, hln, Int.toNat_natCast, hx, h14, bne_self_eq_false, beq_self_eq_true, ba_data, ba_size, ba_toList, ba_extract, ba_append, List.toList_toArray, splice, fillP, fillE, List.modify_zero_cons, List.replicate_succ, List.replicate_zero, List.set_cons_zero, List.drop_zero]; (first | done | rfl))
    | (refine w_condF ?_ ?_; · simp only [go_sem, Nat.reduceEqDiff, Nat.reduceAdd, Nat.reduceLeDiff, f0_2, f0_11, f0_69, f0_70, hti, e1, hln, Int.toNat_natCast, hx, h14, bne_self_eq_false, beq_self_eq_true, ba_data, ba_size, ba_toList, ba_extract, ba_append, List.toList_toArray, splice, fillP, fillE, List.modify_zero_cons, List.replicate_succ, List.replicate_zero, List.set_cons_zero, List.drop_zero]; (first | done | rfl))
    | refine w_skip ?_ | refine w_exit ?_ | refine w_ret ?_
    | fail
    )
      trivial
    · rintro fr1 σ1 - hfr
      try simp only [if_true]
      (repeat' first
    | refine w_seq ?_ | refine w_rg ?_ | refine wo_nil ?_ | refine g_skU ?_
    | ((first | apply s_plain | apply s_void | apply s_guard); · simp only [go_sem, Nat.reduceEqDiff, Nat.reduceAdd, Nat.reduceLeDiff]; (first | done | rfl))
    | ((first | apply g_T | apply g_F); · intro hb; simp only [go_sem, Nat.reduceEqDiff, Nat.reduceAdd, Nat.reduceLeDiff, hb]; (first | done | rfl))
    | ((first | apply g_gT | apply g_gF); · intro hb hc; simp only [go_sem, Nat.reduceEqDiff, Nat.reduceAdd, Nat.reduceLeDiff, hb, hc]; (first | done | rfl))
    | refine g_skT ?_ | refine g_skF ?_
    | ((first | apply g_goT | apply g_goF); · simp only [go_sem, Nat.reduceEqDiff, Nat.reduceAdd, Nat.reduceLeDiff]; (first | done | rfl))
    | (refine w_condT ?_ ?_; · simp only [go_sem, Nat.reduceEqDiff, Nat.reduceAdd, Nat.reduceLeDiff]; (first | done | rfl))
    | (refine w_condF ?_ ?_; · simp only [go_sem, Nat.reduceEqDiff, Nat.reduceAdd, Nat.reduceLeDiff]; (first | done | rfl))
    | refine w_skip ?_ | refine w_exit ?_ | refine w_ret ?_
    | fail
    )
      exact ⟨by first | exact .inr rfl | exact .inr trivial | exact .inl rfl, by simp only [go_sem, Nat.reduceEqDiff, Nat.reduceAdd, Nat.reduceLeDiff, retOf, resOf]; first | done | rfl⟩
  · have hb : ((printD l).2 != 0 || (printD m).2 != 0) = true := by
      simp only [Bool.or_eq_true, bne_iff_ne]
      by_cases h : (printD l).2 = 0
      · exact .inr (fun h2 => he ⟨h, h2⟩)
      · exact .inl h
    (repeat' first
    | refine w_seq ?_ | refine w_rg ?_ | refine wo_nil ?_ | refine g_skU ?_
    | ((first | apply s_plain | apply s_void | apply s_guard); · simp only [go_sem, Nat.reduceEqDiff, Nat.reduceAdd, Nat.reduceLeDiff, g1, g2, h8, h8m]; (first | done | rfl))
    | ((first | apply g_T | apply g_F); · intro hb; simp only [go_sem, Nat.reduceEqDiff, Nat.reduceAdd, Nat.reduceLeDiff, g1, g2, h8, h8m, hb]; (first | done | rfl))
    | ((first | apply g_gT | apply g_gF); · intro hb hc; simp only [go_sem, Nat.reduceEqDiff, Nat.reduceAdd, Nat.reduceLeDiff, g1, g2, h8, h8m, hb, hc]; (first | done | rfl))
    | refine g_skT ?_ | refine g_skF ?_
    | ((first | apply g_goT | apply g_goF); · simp only [go_sem, Nat.reduceEqDiff, Nat.reduceAdd, Nat.reduceLeDiff, g1, g2, h8, h8m]; (first | done | rfl))
    | (refine w_condT ?_ ?_; · simp only [go_sem, Nat.reduceEqDiff, Nat.reduceAdd, Nat.reduceLeDiff, g1, g2, h8, h8m]; (first | done | rfl))
    | (refine w_condF ?_ ?_; · simp only [go_sem, Nat.reduceEqDiff, Nat.reduceAdd, Nat.reduceLeDiff, g1, g2, h8, h8m]; (first | done | rfl))
    | refine w_skip ?_ | refine w_exit ?_ | refine w_ret ?_
    | fail
    )
    refine w_condT (by simp only [go_sem, Nat.reduceEqDiff, Nat.reduceAdd, Nat.reduceLeDiff]; exact congrArg (fun b => PV.sc (.bool b)) hb) ?_
    (repeat' first
    | refine w_seq ?_ | refine w_rg ?_ | refine wo_nil ?_ | refine g_skU ?_
    | ((first | apply s_plain | apply s_void | apply s_guard); · simp only [go_sem, Nat.reduceEqDiff, Nat.reduceAdd, Nat.reduceLeDiff, hal]; (first | done | rfl))
    | ((first | apply g_T | apply g_F); · intro hb; simp only [go_sem, Nat.reduceEqDiff, Nat.reduceAdd, Nat.reduceLeDiff, hal, hb]; (first | done | rfl))
    | ((first | apply g_gT | apply g_gF); · intro hb hc; simp only [go_sem, Nat.reduceEqDiff, Nat.reduceAdd, Nat.reduceLeDiff, hal, hb, hc]; (first | done | rfl))
    | refine g_skT ?_ | refine g_skF ?_
    | ((first | apply g_goT | apply g_goF); · simp only [go_sem, Nat.reduceEqDiff, Nat.reduceAdd, Nat.reduceLeDiff, hal]; (first | done | rfl))
    | (refine w_condT ?_ ?_; · simp only [go_sem, Nat.reduceEqDiff, Nat.reduceAdd, Nat.reduceLeDiff, hal]; (first | done | rfl))
    | (refine w_condF ?_ ?_; · simp only [go_sem, Nat.reduceEqDiff, Nat.reduceAdd, Nat.reduceLeDiff, hal]; (first | done | rfl))
    | refine w_skip ?_ | refine w_exit ?_ | refine w_ret ?_
    | fail
    )
    exact ⟨by first | exact .inr rfl | exact .inr trivial | exact .inl rfl, by simp only [go_sem, Nat.reduceEqDiff, Nat.reduceAdd, Nat.reduceLeDiff, retOf, resOf]; first | done | rfl⟩
end
end Go.Proofs.YtdlfomiclkpibaaDoorPv
namespace Go.Proofs.YtdlfomiclkpibaaDoorPv
open Go
set_option linter.unusedSimpArgs false
set_option linter.unusedVariables false
set_option maxHeartbeats 4000000
attribute [local go_sem ↓] e_mv e_pick e_bin e_eqs e_beq e_un e_cvi e_str e_s2b e_b2s e_box e_build e_bsl e_ld e_st e_nck e_mkf e_slcS e_slcL e_fa e_fld e_ia e_iaa e_ix e_ixa e_ext e_lenS e_lenL e_mnmx e_app e_appb e_bbx e_msl e_clr e_call e_callv pa_t pa_c pa_f slcSP_str hiOf_some hiOf_none loOf_some loOf_none set_eq set_ne
attribute [local go_sem] pv pv1 simple frOf_0 frOf_1 frOf_2 frOf_3 frOf_4 frOf_5 ne_eq not_false_eq_true if_true Bool.false_eq_true if_false pbin punary Option.map_some Option.bind_some pick_and pick_or opt_true Bool.true_and Bool.and_self Bool.and_true Bool.true_or Bool.false_or Bool.not_true Bool.not_false callE pcall_eq List.map_cons List.map_nil List.append_nil List.nil_append List.cons_append mapM_cons' mapM_nil' dep_eq fz_sc fz_sl fz_em fz_fn fz_fp fz_agg fz_tu fz_bx fz_ob Nat.lt_irrefl Nat.zero_lt_one Nat.lt_add_one flat clL cl Bool.or_true okc_sc okc_em okc_sl okc_ob okc_bx okc_fp okc_fn okc_agg okc_ifc cells_agg cells_sc cells_sl cells_em cells_ob cells_fn cells_bx cells_fp List.length_cons List.length_nil Nat.zero_add and_self true_and and_true new_m new_c put_m put_c nil_m nil_c deref List.getElem?_cons_zero List.getElem?_cons_succ List.drop_zero List.drop_succ_cons List.take_succ_cons List.take_zero Nat.le_refl false_and and_false decide_true decide_false lenP_em lenP_nil lenP_sl lenP_ob Int.ofNat_zero
set_option maxRecDepth 8000
/-- strings.HasSuffix -/
def d22 : Def := (.code 2 [.tmp 4] (.seq (.rg false [⟨.some 4, .none, .mv (.c (.bool false))⟩]) (.seq (.rg false [⟨.some 5, .none, .mv (.t 0)⟩, ⟨.some 6, .none, .mv (.t 1)⟩, ⟨.some 7, .none, .call 45 .pure [.t 5, .t 6]⟩, ⟨.some 4, .none, .mv (.t 7)⟩]) .ret)))
/-- strings.TrimSuffix -/
def d19 : Def := (.code 2 [.tmp 4] (.seq (.rg false [⟨.some 4, .none, .mv (.c (.string ⟨#[]⟩))⟩]) (.seq (.rg false [⟨.some 5, .none, .mv (.t 0)⟩, ⟨.some 6, .none, .mv (.t 1)⟩, ⟨.some 7, .none, .call 43 .pure [.t 5, .t 6]⟩, ⟨.some 4, .none, .mv (.t 7)⟩]) .ret)))
/-- internal/stringslite.TrimSuffix -/
def d43 : Def := (.code 2 [.tmp 4] (.seq (.rg false [⟨.some 4, .none, .mv (.c (.string ⟨#[]⟩))⟩]) (.seq (.seq (.rg false [⟨.some 5, .none, .mv (.t 0)⟩, ⟨.some 6, .none, .mv (.t 1)⟩, ⟨.some 7, .none, .call 45 .pure [.t 5, .t 6]⟩]) (.cond (.t 7) (.seq (.rg false [⟨.some 8, .none, .mv (.t 0)⟩, ⟨.some 9, .none, .mv (.t 0)⟩, ⟨.some 10, .none, .lenS (.t 9)⟩, ⟨.some 11, .none, .mv (.t 1)⟩, ⟨.some 12, .none, .lenS (.t 11)⟩, ⟨.some 13, .none, .bin .sub (.t 10) (.t 12)⟩, ⟨.some 14, .none, .slcS (.t 8) .none (.some (.t 13))⟩, ⟨.some 4, .none, .mv (.t 14)⟩]) .ret) .skip)) (.seq (.rg false [⟨.some 15, .none, .mv (.t 0)⟩, ⟨.some 4, .none, .mv (.t 15)⟩]) .ret))))
/-- strings.Index -/
def d44 : Def := (.code 2 [.tmp 4] (.seq (.rg false [⟨.some 4, .none, .mv (.c (.int .i64 0))⟩]) (.seq (.rg false [⟨.some 5, .none, .mv (.t 0)⟩, ⟨.some 6, .none, .mv (.t 1)⟩, ⟨.some 7, .none, .call 63 .pure [.t 5, .t 6]⟩, ⟨.some 4, .none, .mv (.t 7)⟩]) .ret)))
/-- strings.Contains -/
def d21 : Def := (.code 2 [.tmp 4] (.seq (.rg false [⟨.some 4, .none, .mv (.c (.bool false))⟩]) (.seq (.rg false [⟨.some 5, .none, .mv (.t 0)⟩, ⟨.some 6, .none, .mv (.t 1)⟩, ⟨.some 7, .none, .call 44 .pure [.t 5, .t 6]⟩, ⟨.some 8, .none, .bin .geq (.t 7) (.c (.int .i64 0))⟩, ⟨.some 4, .none, .mv (.t 8)⟩]) .ret)))
/-- strings.genSplit -/
def d42 : Def := (.code 4 [.tmp 8] (.seq (.rg false [⟨.some 8, .none, .mv (.c (.slice .none 0 0))⟩]) (.seq (.seq (.rg false [⟨.some 12, .none, .mv (.t 3)⟩, ⟨.some 13, .none, .bin .eql (.t 12) (.c (.int .i64 0))⟩]) (.cond (.t 13) (.seq (.rg false [⟨.some 8, .none, .mv (.c (.slice .none 0 0))⟩]) .ret) .skip)) (.seq (.seq (.rg false [⟨.some 14, .none, .mv (.t 1)⟩, ⟨.some 15, .none, .bin .eql (.t 14) (.c (.string ⟨#[]⟩))⟩]) (.cond (.t 15) (.seq (.rg false [⟨.some 16, .none, .mv (.t 0)⟩, ⟨.some 17, .none, .mv (.t 3)⟩, ⟨.some 18, .none, .call 61 .pure [.t 16, .t 17]⟩, ⟨.some 8, .none, .mv (.t 18)⟩]) .ret) .skip)) (.seq (.seq (.rg false [⟨.some 19, .none, .mv (.t 3)⟩, ⟨.some 20, .none, .bin .lss (.t 19) (.c (.int .i64 0))⟩]) (.cond (.t 20) (.rg false [⟨.some 21, .none, .mv (.t 0)⟩, ⟨.some 22, .none, .mv (.t 1)⟩, ⟨.some 23, .none, .call 62 .pure [.t 21, .t 22]⟩, ⟨.some 24, .none, .bin .add (.t 23) (.c (.int .i64 1))⟩, ⟨.some 3, .none, .mv (.t 24)⟩]) .skip)) (.seq (.rg false [⟨.some 25, .none, .mv (.t 3)⟩, ⟨.some 26, .none, .mv (.t 0)⟩, ⟨.some 27, .none, .lenS (.t 26)⟩, ⟨.some 28, .none, .bin .add (.t 27) (.c (.int .i64 1))⟩, ⟨.some 29, .none, .mnmx false [.t 25, .t 28]⟩, ⟨.some 3, .none, .mv (.t 29)⟩]) (.seq (.rg false [⟨.some 30, .none, .mv (.t 3)⟩, ⟨.some 31, .none, .msl 1 16 (.string ⟨#[]⟩) (.t 30) (.t 30)⟩, ⟨.some 9, .none, .mv (.t 31)⟩]) (.seq (.rg false [⟨.some 32, .none, .mv (.t 3)⟩, ⟨.some 33, .none, .bin .sub (.t 32) (.c (.int .i64 1))⟩, ⟨.some 3, .none, .mv (.t 33)⟩]) (.seq (.rg false [⟨.some 10, .none, .mv (.c (.int .i64 0))⟩]) (.seq (.block 0 (.loop (.seq (.seq (.rg false [⟨.some 34, .none, .mv (.t 10)⟩, ⟨.some 35, .none, .mv (.t 3)⟩, ⟨.some 36, .none, .bin .lss (.t 34) (.t 35)⟩]) (.cond (.t 36) .skip (.exit 0))) (.block 1 (.seq (.rg false [⟨.some 37, .none, .mv (.t 0)⟩, ⟨.some 38, .none, .mv (.t 1)⟩, ⟨.some 39, .none, .call 44 .pure [.t 37, .t 38]⟩, ⟨.some 11, .none, .mv (.t 39)⟩]) (.seq (.seq (.rg false [⟨.some 40, .none, .mv (.t 11)⟩, ⟨.some 41, .none, .bin .lss (.t 40) (.c (.int .i64 0))⟩]) (.cond (.t 41) (.exit 0) .skip)) (.seq (.rg false [⟨.some 42, .none, .mv (.t 9)⟩, ⟨.some 43, .none, .mv (.t 10)⟩, ⟨.some 44, .none, .mv (.t 0)⟩, ⟨.some 45, .none, .mv (.t 11)⟩, ⟨.some 46, .none, .mv (.t 2)⟩, ⟨.some 47, .none, .bin .add (.t 45) (.t 46)⟩, ⟨.some 48, .none, .slcS (.t 44) .none (.some (.t 47))⟩, ⟨.some 49, .none, .ia 1 (.t 42) (.t 43)⟩, ⟨.none, .none, .st 1 (.t 49) (.t 48)⟩]) (.seq (.rg false [⟨.some 50, .none, .mv (.t 0)⟩, ⟨.some 51, .none, .mv (.t 11)⟩, ⟨.some 52, .none, .mv (.t 1)⟩, ⟨.some 53, .none, .lenS (.t 52)⟩, ⟨.some 54, .none, .bin .add (.t 51) (.t 53)⟩, ⟨.some 55, .none, .slcS (.t 50) (.some (.t 54)) .none⟩, ⟨.some 0, .none, .mv (.t 55)⟩]) (.rg false [⟨.some 56, .none, .mv (.t 10)⟩, ⟨.some 57, .none, .bin .add (.t 56) (.c (.int .i64 1))⟩, ⟨.some 10, .none, .mv (.t 57)⟩]))))))))) (.seq (.rg false [⟨.some 58, .none, .mv (.t 9)⟩, ⟨.some 59, .none, .mv (.t 10)⟩, ⟨.some 60, .none, .mv (.t 0)⟩, ⟨.some 61, .none, .ia 1 (.t 58) (.t 59)⟩, ⟨.none, .none, .st 1 (.t 61) (.t 60)⟩]) (.seq (.rg false [⟨.some 62, .none, .mv (.t 9)⟩, ⟨.some 63, .none, .mv (.t 10)⟩, ⟨.some 64, .none, .bin .add (.t 63) (.c (.int .i64 1))⟩, ⟨.some 65, .none, .slcL 1 (.t 62) .none (.some (.t 64))⟩, ⟨.some 8, .none, .mv (.t 65)⟩]) .ret))))))))))))
/-- strings.Split -/
def d18 : Def := (.code 2 [.tmp 4] (.seq (.rg false [⟨.some 4, .none, .mv (.c (.slice .none 0 0))⟩]) (.seq (.rg false [⟨.some 5, .none, .mv (.t 0)⟩, ⟨.some 6, .none, .mv (.t 1)⟩, ⟨.some 7, .none, .call 42 .pure [.t 5, .t 6, .c (.int .i64 0), .c (.int .i64 (-1))]⟩, ⟨.some 4, .none, .mv (.t 7)⟩]) .ret)))
def lma : List (Nat × Def) := [(22, d22), (19, d19), (43, d43)]
def lmb : List (Nat × Def) := [(44, d44), (21, d21)]
def lmc : List (Nat × Def) := [(62, .prim (pureF cntF)), (42, d42), (18, d18)]
section
variable {env : Nat → Option Def} {fr : Fr} {σ σ' σ'' : St} {K : Fr → St → Prop} {Q : X → Fr → St → Prop} {p : PV} {bs : List UInt8}
theorem a22 (C : Has ldm env) (M : Has lma env) {s t : List UInt8} (hs : s.length ≤ 4000000000) : AV env 22 [txt s, txt t] = some (.sc (.bool (t.isSuffixOf s))) := by
  have h := a45 C (s := s) (t := t) hs
  refine AV_wp (M (22, d22) (by simp [lma])) rfl ?_
  (repeat' first
    | refine w_seq ?_ | refine w_rg ?_ | refine wo_nil ?_ | refine g_skU ?_
    | ((first | apply s_plain | apply s_void | apply s_guard); · simp only [go_sem, Nat.reduceEqDiff, Nat.reduceAdd, Nat.reduceLeDiff, h]; (first | done | rfl))
    | ((first | apply g_T | apply g_F); · intro hb; simp only [go_sem, Nat.reduceEqDiff, Nat.reduceAdd, Nat.reduceLeDiff, h, hb]; (first | done | rfl))
    | ((first | apply g_gT | apply g_gF); · intro hb hc; simp only [go_sem, Nat.reduceEqDiff, Nat.reduceAdd, Nat.reduceLeDiff, h, hb, hc]; (first | done | rfl))
    | refine g_skT ?_ | refine g_skF ?_
    | ((first | apply g_goT | apply g_goF); · simp only [go_sem, Nat.reduceEqDiff, Nat.reduceAdd, Nat.reduceLeDiff, h]; (first | done | rfl))
    | (refine w_condT ?_ ?_; · simp only [go_sem, Nat.reduceEqDiff, Nat.reduceAdd, Nat.reduceLeDiff, h]; (first | done | rfl))
    | (refine w_condF ?_ ?_; · simp only [go_sem, Nat.reduceEqDiff, Nat.reduceAdd, Nat.reduceLeDiff, h]; (first | done | rfl))
    | refine w_skip ?_ | refine w_exit ?_ | refine w_ret ?_
    | fail
    )
  exact ⟨by first | exact .inr rfl | exact .inr trivial | exact .inl rfl, by simp only [go_sem, Nat.reduceEqDiff, Nat.reduceAdd, Nat.reduceLeDiff, retOf, resOf]; first | done | rfl⟩
theorem a43 (C : Has ldm env) (M : Has lma env) {s t : List UInt8} (hs : s.length ≤ 4000000000) : AV env 43 [txt s, txt t] = some (txt (cutSuf s t)) := by
  have h := a45 C (s := s) (t := t) hs
  refine AV_wp (M (43, d43) (by simp [lma])) rfl ?_
  (repeat' first
    | refine w_seq ?_ | refine w_rg ?_ | refine wo_nil ?_ | refine g_skU ?_
    | ((first | apply s_plain | apply s_void | apply s_guard); · simp only [go_sem, Nat.reduceEqDiff, Nat.reduceAdd, Nat.reduceLeDiff, h]; (first | done | rfl))
    | ((first | apply g_T | apply g_F); · intro hb; simp only [go_sem, Nat.reduceEqDiff, Nat.reduceAdd, Nat.reduceLeDiff, h, hb]; (first | done | rfl))
    | ((first | apply g_gT | apply g_gF); · intro hb hc; simp only [go_sem, Nat.reduceEqDiff, Nat.reduceAdd, Nat.reduceLeDiff, h, hb, hc]; (first | done | rfl))
    | refine g_skT ?_ | refine g_skF ?_
    | ((first | apply g_goT | apply g_goF); · simp only [go_sem, Nat.reduceEqDiff, Nat.reduceAdd, Nat.reduceLeDiff, h]; (first | done | rfl))
    | fail
    )
  cases hp : t.isSuffixOf s with
  | false =>
    (repeat' first
    | refine w_seq ?_ | refine w_rg ?_ | refine wo_nil ?_ | refine g_skU ?_
    | ((first | apply s_plain | apply s_void | apply s_guard); · simp only [go_sem, Nat.reduceEqDiff, Nat.reduceAdd, Nat.reduceLeDiff]; (first | done | rfl))
    | ((first | apply g_T | apply g_F); · intro hb; simp only [go_sem, Nat.reduceEqDiff, Nat.reduceAdd, Nat.reduceLeDiff, hb]; (first | done | rfl))
    | ((first | apply g_gT | apply g_gF); · intro hb hc; simp only [go_sem, Nat.reduceEqDiff, Nat.reduceAdd, Nat.reduceLeDiff, hb, hc]; (first | done | rfl))
    | refine g_skT ?_ | refine g_skF ?_
    | ((first | apply g_goT | apply g_goF); · simp only [go_sem, Nat.reduceEqDiff, Nat.reduceAdd, Nat.reduceLeDiff]; (first | done | rfl))
    | (refine w_condT ?_ ?_; · simp only [go_sem, Nat.reduceEqDiff, Nat.reduceAdd, Nat.reduceLeDiff]; (first | done | rfl))
    | (refine w_condF ?_ ?_; · simp only [go_sem, Nat.reduceEqDiff, Nat.reduceAdd, Nat.reduceLeDiff]; (first | done | rfl))
    | refine w_skip ?_ | refine w_exit ?_ | refine w_ret ?_
    | fail
    )
    exact ⟨by first | exact .inr rfl | exact .inr trivial | exact .inl rfl, by simp only [go_sem, Nat.reduceEqDiff, Nat.reduceAdd, Nat.reduceLeDiff, retOf, resOf, cutSuf, hp]; first | done | rfl⟩
  | true =>
    have hle : t.length ≤ s.length := by
      rw [List.isSuffixOf_iff_suffix] at hp
      exact hp.length_le
    have w1 : IntKind.i64.wrap ((s.length : Int) - (t.length : Int)) = ((s.length - t.length : Nat) : Int) := by rw [IntKind.wrap_i64]; omega
    have b1 : (0 : Int) ≤ ((s.length - t.length : Nat) : Int) ∧ ((s.length - t.length : Nat) : Int) ≤ (s.length : Int) := by omega
    (repeat' first
    | refine w_seq ?_ | refine w_rg ?_ | refine wo_nil ?_ | refine g_skU ?_
    | ((first | apply s_plain | apply s_void | apply s_guard); · simp only [go_sem, Nat.reduceEqDiff, Nat.reduceAdd, Nat.reduceLeDiff, ba_data, ba_size, ba_toList, ba_extract, ba_append, List.toList_toArray, w1, bound, b1, Int.toNat_natCast, List.drop_zero]; (first | done | rfl))
    | ((first | apply g_T | apply g_F); · intro hb; simp only [go_sem, Nat.reduceEqDiff, Nat.reduceAdd, Nat.reduceLeDiff, ba_data, ba_size, ba_toList, ba_extract, ba_append, List.toList_toArray, w1, bound, b1, Int.toNat_natCast, List.drop_zero, hb]; (first | done | rfl))
    | ((first | apply g_gT | apply g_gF); · intro hb hc; simp only [go_sem, Nat.reduceEqDiff, Nat.reduceAdd, Nat.reduceLeDiff, ba_data, ba_size, ba_toList, ba_extract, ba_append, List.toList_toArray, w1, bound, b1, Int.toNat_natCast, List.drop_zero, hb, hc]; (first | done | rfl))
    | refine g_skT ?_ | refine g_skF ?_
    | ((first | apply g_goT | apply g_goF); · simp only [go_sem, Nat.reduceEqDiff, Nat.reduceAdd, Nat.reduceLeDiff, ba_data, ba_size, ba_toList, ba_extract, ba_append, List.toList_toArray, w1, bound, b1, Int.toNat_natCast, List.drop_zero]; (first | done | rfl))
    | (refine w_condT ?_ ?_; · simp only [go_sem, Nat.reduceEqDiff, Nat.reduceAdd, Nat.reduceLeDiff, ba_data, ba_size, ba_toList, ba_extract, ba_append, List.toList_toArray, w1, bound, b1, Int.toNat_natCast, List.drop_zero]; (first | done | rfl))
    | (refine w_condF ?_ ?_; · simp only [go_sem, Nat.reduceEqDiff, Nat.reduceAdd, Nat.reduceLeDiff, ba_data, ba_size, ba_toList, ba_extract, ba_append, List.toList_toArray, w1, bound, b1, Int.toNat_natCast, List.drop_zero]; (first | done | rfl))
    | refine w_skip ?_ | refine w_exit ?_ | refine w_ret ?_
    | fail
    )
    exact ⟨by first | exact .inr rfl | exact .inr trivial | exact .inl rfl, by simp only [go_sem, Nat.reduceEqDiff, Nat.reduceAdd, Nat.reduceLeDiff, retOf, resOf, cutSuf, hp]; first | done | rfl⟩
theorem a19 (C : Has ldm env) (M : Has lma env) {s t : List UInt8} (hs : s.length ≤ 4000000000) : AV env 19 [txt s, txt t] = some (txt (cutSuf s t)) := by
  have h := a43 C M (s := s) (t := t) hs
  refine AV_wp (M (19, d19) (by simp [lma])) rfl ?_
  (repeat' first
    | refine w_seq ?_ | refine w_rg ?_ | refine wo_nil ?_ | refine g_skU ?_
    | ((first | apply s_plain | apply s_void | apply s_guard); · simp only [go_sem, Nat.reduceEqDiff, Nat.reduceAdd, Nat.reduceLeDiff, h]; (first | done | rfl))
    | ((first | apply g_T | apply g_F); · intro hb; simp only [go_sem, Nat.reduceEqDiff, Nat.reduceAdd, Nat.reduceLeDiff, h, hb]; (first | done | rfl))
    | ((first | apply g_gT | apply g_gF); · intro hb hc; simp only [go_sem, Nat.reduceEqDiff, Nat.reduceAdd, Nat.reduceLeDiff, h, hb, hc]; (first | done | rfl))
    | refine g_skT ?_ | refine g_skF ?_
    | ((first | apply g_goT | apply g_goF); · simp only [go_sem, Nat.reduceEqDiff, Nat.reduceAdd, Nat.reduceLeDiff, h]; (first | done | rfl))
    | (refine w_condT ?_ ?_; · simp only [go_sem, Nat.reduceEqDiff, Nat.reduceAdd, Nat.reduceLeDiff, h]; (first | done | rfl))
    | (refine w_condF ?_ ?_; · simp only [go_sem, Nat.reduceEqDiff, Nat.reduceAdd, Nat.reduceLeDiff, h]; (first | done | rfl))
    | refine w_skip ?_ | refine w_exit ?_ | refine w_ret ?_
    | fail
    )
  exact ⟨by first | exact .inr rfl | exact .inr trivial | exact .inl rfl, by simp only [go_sem, Nat.reduceEqDiff, Nat.reduceAdd, Nat.reduceLeDiff, retOf, resOf]; first | done | rfl⟩
theorem a44 (C : Has lca env) (M : Has lmb env) {s t : List UInt8} (hs : s.length < 4294967281) : AV env 44 [txt s, txt t] = some (.sc (.int .i64 (Lib.index s t))) := by
  have h := a63 C (s := s) (t := t) hs
  refine AV_wp (M (44, d44) (by simp [lmb])) rfl ?_
  (repeat' first
    | refine w_seq ?_ | refine w_rg ?_ | refine wo_nil ?_ | refine g_skU ?_
    | ((first | apply s_plain | apply s_void | apply s_guard); · simp only [go_sem, Nat.reduceEqDiff, Nat.reduceAdd, Nat.reduceLeDiff, h]; (first | done | rfl))
    | ((first | apply g_T | apply g_F); · intro hb; simp only [go_sem, Nat.reduceEqDiff, Nat.reduceAdd, Nat.reduceLeDiff, h, hb]; (first | done | rfl))
    | ((first | apply g_gT | apply g_gF); · intro hb hc; simp only [go_sem, Nat.reduceEqDiff, Nat.reduceAdd, Nat.reduceLeDiff, h, hb, hc]; (first | done | rfl))
    | refine g_skT ?_ | refine g_skF ?_
    | ((first | apply g_goT | apply g_goF); · simp only [go_sem, Nat.reduceEqDiff, Nat.reduceAdd, Nat.reduceLeDiff, h]; (first | done | rfl))
    | (refine w_condT ?_ ?_; · simp only [go_sem, Nat.reduceEqDiff, Nat.reduceAdd, Nat.reduceLeDiff, h]; (first | done | rfl))
    | (refine w_condF ?_ ?_; · simp only [go_sem, Nat.reduceEqDiff, Nat.reduceAdd, Nat.reduceLeDiff, h]; (first | done | rfl))
    | refine w_skip ?_ | refine w_exit ?_ | refine w_ret ?_
    | fail
    )
  exact ⟨by first | exact .inr rfl | exact .inr trivial | exact .inl rfl, by simp only [go_sem, Nat.reduceEqDiff, Nat.reduceAdd, Nat.reduceLeDiff, retOf, resOf]; first | done | rfl⟩
theorem idx1_has (s : List UInt8) (c : UInt8) : decide (Lib.index s [c] ≥ 0) = s.contains c := by
  rcases split1 c s with h | ⟨a, b, rfl, h⟩
  · rw [idx1_no h]
    simp [h]
  · rw [idx1_at h]
    simp
theorem a21 (C : Has lca env) (M : Has lmb env) {s : List UInt8} (c : UInt8) (hs : s.length < 4294967281) : AV env 21 [txt s, txt [c]] = some (.sc (.bool (s.contains c))) := by
  have h := a44 C M (s := s) (t := [c]) hs
  have e := idx1_has s c
  refine AV_wp (M (21, d21) (by simp [lmb])) rfl ?_
  (repeat' first
    | refine w_seq ?_ | refine w_rg ?_ | refine wo_nil ?_ | refine g_skU ?_
    | ((first | apply s_plain | apply s_void | apply s_guard); · simp only [go_sem, Nat.reduceEqDiff, Nat.reduceAdd, Nat.reduceLeDiff, h, e]; (first | done | rfl))
    | ((first | apply g_T | apply g_F); · intro hb; simp only [go_sem, Nat.reduceEqDiff, Nat.reduceAdd, Nat.reduceLeDiff, h, e, hb]; (first | done | rfl))
    | ((first | apply g_gT | apply g_gF); · intro hb hc; simp only [go_sem, Nat.reduceEqDiff, Nat.reduceAdd, Nat.reduceLeDiff, h, e, hb, hc]; (first | done | rfl))
    | refine g_skT ?_ | refine g_skF ?_
    | ((first | apply g_goT | apply g_goF); · simp only [go_sem, Nat.reduceEqDiff, Nat.reduceAdd, Nat.reduceLeDiff, h, e]; (first | done | rfl))
    | (refine w_condT ?_ ?_; · simp only [go_sem, Nat.reduceEqDiff, Nat.reduceAdd, Nat.reduceLeDiff, h, e]; (first | done | rfl))
    | (refine w_condF ?_ ?_; · simp only [go_sem, Nat.reduceEqDiff, Nat.reduceAdd, Nat.reduceLeDiff, h, e]; (first | done | rfl))
    | refine w_skip ?_ | refine w_exit ?_ | refine w_ret ?_
    | fail
    )
  exact ⟨by first | exact .inr rfl | exact .inr trivial | exact .inl rfl, by simp only [go_sem, Nat.reduceEqDiff, Nat.reduceAdd, Nat.reduceLeDiff, retOf, resOf]; first | done | rfl⟩
theorem a62 (M : Has lmc env) {s : List UInt8} (c : UInt8) : AV env 62 [txt s, txt [c]] = some (.sc (.int .i64 ((s.count c : Nat) : Int))) := by
  have h := M (62, .prim (pureF cntF)) (by simp [lmc])
  refine AV_of (σ := St.nil) (r := .sc (.int .i64 ((s.count c : Nat) : Int))) ?_ rfl
  rw [EV_prim h]
  simp only [pureF, mapM_cons', mapM_nil', scOf, Option.bind_some, cntF, List.toList_toArray, Option.map_some]
  rfl
/-- A text cut at each place of a byte. -/
def cutsC (c : UInt8) : List UInt8 → List (List UInt8)
  | [] => [[]]
  | x :: s => if x = c then [] :: cutsC c s else match cutsC c s with
    | [] => []
    | y :: l => (x :: y) :: l
theorem cutsC_no {c : UInt8} : ∀ {s : List UInt8}, c ∉ s → cutsC c s = [s]
  | [], _ => rfl
  | x :: s, h => by
    simp only [List.mem_cons, not_or] at h
    rw [cutsC, if_neg (fun e => h.1 e.symm), cutsC_no h.2]
theorem cutsC_at {c : UInt8} : ∀ {a b : List UInt8}, c ∉ a → cutsC c (a ++ c :: b) = a :: cutsC c b
  | [], b, _ => by rw [List.nil_append, cutsC, if_pos rfl]
  | x :: a, b, h => by
    simp only [List.mem_cons, not_or] at h
    rw [List.cons_append, cutsC, if_neg (fun e => h.1 e.symm), cutsC_at h.2]
theorem cutsC_lines (s : List UInt8) : cutsC 10 s = (linesD s).1 ++ [(linesD s).2] := by
  induction s with
  | nil => rfl
  | cons c s ih =>
    rw [cutsC, linesD]
    by_cases hc : c = 10
    · rw [if_pos hc, if_pos hc, ih]; rfl
    · rw [if_neg hc, if_neg hc, ih]
      generalize linesD s = q
      obtain ⟨l, r⟩ := q
      cases l <;> rfl
theorem cutsC_len (c : UInt8) (s : List UInt8) : (cutsC c s).length = s.count c + 1 := by
  induction s with
  | nil => rfl
  | cons x s ih =>
    rw [cutsC]
    by_cases hc : x = c
    · rw [if_pos hc, hc]; simp [ih]
    · rw [if_neg hc, List.count_cons_of_ne hc]
      cases hq : cutsC c s with
      | nil => rw [hq] at ih; simp at ih
      | cons y l => rw [hq] at ih; simpa using ih
theorem modify_mid {α : Type} (ys : List α) (e : α) (zs : List α) (f : α → α) : (ys ++ e :: zs).modify ys.length f = ys ++ f e :: zs := by
  induction ys with
  | nil => rfl
  | cons y r ih => simp [ih]
theorem txts_app (a b : List (List UInt8)) : txts (a ++ b) = txts a ++ txts b := by simp [txts]
theorem s_msl {d es by_ N M : Nat} {k k' : IntKind} {z : Value} {n c : PA} {ops : List POp} (h1 : pa fr n = .sc (.int k (N : Int))) (h2 : pa fr c = .sc (.int k' (M : Int))) (hl : N ≤ M) (hb : M * by_ ≤ 70368744177664) (hb2 : M ≤ 70368744177664) (hok : okc (pv z) = true) (hc : (cellsOf (pv z)).length = es)
    (h : Wos env ops K (fr.set d (.ob d (σ.c d) es 0 N)) (σ.new d ⟨es, List.replicate N (pv z), true, true⟩)) : Wos env (⟨some d, none, .msl es by_ z n c⟩ :: ops) K fr σ := by
  refine s_plain ?_ h
  rw [e_msl, h1, h2]
  simp only
  rw [if_pos ⟨by omega, by omega, by omega, by omega, hok, hc⟩, Int.toNat_natCast]
theorem a42 (C : Has lca env) (M : Has lmb env) (N : Has lmc env) {s : List UInt8} (c : UInt8) (hs : s.length ≤ 4000000000) : AV env 42 [txt s, txt [c], .sc (.int .i64 0), .sc (.int .i64 (-1))] = some (.sl (txts (cutsC c s))) := by
  have h62 := a62 N (s := s) c
  have hcl := List.count_le_length (a := c) (l := s)
  have hlen := cutsC_len c s
  generalize s.count c = n at h62 hcl hlen
  have w1 : IntKind.i64.wrap ((n : Int) + 1) = ((n + 1 : Nat) : Int) := by rw [IntKind.wrap_i64]; omega
  have w2 : IntKind.i64.wrap ((s.length : Int) + 1) = ((s.length + 1 : Nat) : Int) := by rw [IntKind.wrap_i64]; omega
  have m1 : min ((n + 1 : Nat) : Int) ((s.length + 1 : Nat) : Int) = ((n + 1 : Nat) : Int) := by omega
  have w3 : IntKind.i64.wrap (((n + 1 : Nat) : Int) - 1) = (n : Int) := by rw [IntKind.wrap_i64]; omega
  have c1 : (0 : Int) ≤ ((n + 1 : Nat) : Int) := by omega
  have c2 : ((n + 1 : Nat) : Int) * 16 ≤ 70368744177664 := by omega
  have c3 : ((n + 1 : Nat) : Int) ≤ 70368744177664 := by omega
  refine AV_wp (N (42, d42) (by simp [lmc])) rfl ?_
  have e0 : (((-1) : Int) == 0) = false := rfl
  have e1 : decide (((-1) : Int) < 0) = true := rfl
  have e2 : (([c] : List UInt8) == []) = false := rfl
  (repeat' first
    | refine w_seq ?_ | refine w_rg ?_ | refine wo_nil ?_ | refine g_skU ?_
    | ((first | apply s_plain | apply s_void | apply s_guard); · simp only [go_sem, Nat.reduceEqDiff, Nat.reduceAdd, Nat.reduceLeDiff, h62, w1, w2, m1, mn2, e0, e1, e2, ba_data, ba_size, ba_toList, ba_extract, ba_append, List.toList_toArray, ba_nil]; (first | done | rfl))
    | ((first | apply g_T | apply g_F); · intro hb; simp only [go_sem, Nat.reduceEqDiff, Nat.reduceAdd, Nat.reduceLeDiff, h62, w1, w2, m1, mn2, e0, e1, e2, ba_data, ba_size, ba_toList, ba_extract, ba_append, List.toList_toArray, ba_nil, hb]; (first | done | rfl))
    | ((first | apply g_gT | apply g_gF); · intro hb hc; simp only [go_sem, Nat.reduceEqDiff, Nat.reduceAdd, Nat.reduceLeDiff, h62, w1, w2, m1, mn2, e0, e1, e2, ba_data, ba_size, ba_toList, ba_extract, ba_append, List.toList_toArray, ba_nil, hb, hc]; (first | done | rfl))
    | refine g_skT ?_ | refine g_skF ?_
    | ((first | apply g_goT | apply g_goF); · simp only [go_sem, Nat.reduceEqDiff, Nat.reduceAdd, Nat.reduceLeDiff, h62, w1, w2, m1, mn2, e0, e1, e2, ba_data, ba_size, ba_toList, ba_extract, ba_append, List.toList_toArray, ba_nil]; (first | done | rfl))
    | (refine w_condT ?_ ?_; · simp only [go_sem, Nat.reduceEqDiff, Nat.reduceAdd, Nat.reduceLeDiff, h62, w1, w2, m1, mn2, e0, e1, e2, ba_data, ba_size, ba_toList, ba_extract, ba_append, List.toList_toArray, ba_nil]; (first | done | rfl))
    | (refine w_condF ?_ ?_; · simp only [go_sem, Nat.reduceEqDiff, Nat.reduceAdd, Nat.reduceLeDiff, h62, w1, w2, m1, mn2, e0, e1, e2, ba_data, ba_size, ba_toList, ba_extract, ba_append, List.toList_toArray, ba_nil]; (first | done | rfl))
    | refine w_skip ?_ | refine w_exit ?_ | refine w_ret ?_
    | fail
    )
  refine s_msl (N := n + 1) (M := n + 1) (by simp only [go_sem, Nat.reduceEqDiff, Nat.reduceAdd, Nat.reduceLeDiff]; first | done | rfl) (by simp only [go_sem, Nat.reduceEqDiff, Nat.reduceAdd, Nat.reduceLeDiff]; first | done | rfl) (Nat.le_refl _) (by omega) (by omega) rfl rfl ?_
  (repeat' first
    | refine w_seq ?_ | refine w_rg ?_ | refine wo_nil ?_ | refine g_skU ?_
    | ((first | apply s_plain | apply s_void | apply s_guard); · simp only [go_sem, Nat.reduceEqDiff, Nat.reduceAdd, Nat.reduceLeDiff, w3]; (first | done | rfl))
    | ((first | apply g_T | apply g_F); · intro hb; simp only [go_sem, Nat.reduceEqDiff, Nat.reduceAdd, Nat.reduceLeDiff, w3, hb]; (first | done | rfl))
    | ((first | apply g_gT | apply g_gF); · intro hb hc; simp only [go_sem, Nat.reduceEqDiff, Nat.reduceAdd, Nat.reduceLeDiff, w3, hb, hc]; (first | done | rfl))
    | refine g_skT ?_ | refine g_skF ?_
    | ((first | apply g_goT | apply g_goF); · simp only [go_sem, Nat.reduceEqDiff, Nat.reduceAdd, Nat.reduceLeDiff, w3]; (first | done | rfl))
    | fail
    )
  refine w_block (w_loopF (fun m fr σ => ∃ (i k : Nat) (rest : List UInt8) (done : List (List UInt8)), m = k ∧ i + k = n ∧ done.length = i ∧ fr 0 = txt rest ∧ fr 10 = .sc (.int .i64 (i : Int)) ∧ σ.m 31 0 = some ⟨1, txts done ++ txt [] :: List.replicate k (txt []), true, true⟩ ∧
      cutsC c s = done ++ cutsC c rest ∧ rest.length ≤ s.length) ?_ n ⟨0, n, s, [], rfl, by omega, rfl, by simp only [go_sem, Nat.reduceEqDiff, Nat.reduceAdd, Nat.reduceLeDiff], by simp only [go_sem, Nat.reduceEqDiff, Nat.reduceAdd, Nat.reduceLeDiff], (by simp only [go_sem, Nat.reduceEqDiff, Nat.reduceAdd, Nat.reduceLeDiff, List.replicate_succ]; first | done | rfl), rfl, Nat.le_refl _⟩)
  rintro m fr1 σ1 ⟨i, k, rest, done, rfl, hik, hdl, f0, f10, hm, hcut, hrl⟩ hfr
  have f0_1 := hfr 1 rfl; have f0_2 := hfr 2 rfl; have f0_3 := hfr 3 rfl; have f0_9 := hfr 9 rfl; try (simp only [go_sem, Nat.reduceEqDiff, Nat.reduceAdd, Nat.reduceLeDiff] at f0_1); try (simp only [go_sem, Nat.reduceEqDiff, Nat.reduceAdd, Nat.reduceLeDiff] at f0_2); try (simp only [go_sem, Nat.reduceEqDiff, Nat.reduceAdd, Nat.reduceLeDiff] at f0_3); try (simp only [go_sem, Nat.reduceEqDiff, Nat.reduceAdd, Nat.reduceLeDiff] at f0_9)
  have hcl2 := cutsC_len c rest
  have htl := txts_len done
  have hll : (done ++ cutsC c rest).length = n + 1 := by rw [← hcut]; exact hlen
  rw [List.length_append] at hll
  cases m with
  | zero =>
    have hd : decide ((i : Int) < (n : Int)) = false := by simp; omega
    have hno : c ∉ rest := by
      rw [← List.count_eq_zero]; omega
    rw [cutsC_no hno] at hcut
    have e0_8 := hfr 8 rfl; have e0_9 := hfr 9 rfl; try (simp only [go_sem, Nat.reduceEqDiff, Nat.reduceAdd, Nat.reduceLeDiff] at e0_8); try (simp only [go_sem, Nat.reduceEqDiff, Nat.reduceAdd, Nat.reduceLeDiff] at e0_9)
    (repeat' first
    | refine w_seq ?_ | refine w_rg ?_ | refine wo_nil ?_ | refine g_skU ?_
    | ((first | apply s_plain | apply s_void | apply s_guard); · simp only [go_sem, Nat.reduceEqDiff, Nat.reduceAdd, Nat.reduceLeDiff, f0_1, f0_2, f0_3, f0_9, f10, hd]; (first | done | rfl))
    | ((first | apply g_T | apply g_F); · intro hb; simp only [go_sem, Nat.reduceEqDiff, Nat.reduceAdd, Nat.reduceLeDiff, f0_1, f0_2, f0_3, f0_9, f10, hd, hb]; (first | done | rfl))
    | ((first | apply g_gT | apply g_gF); · intro hb hc; simp only [go_sem, Nat.reduceEqDiff, Nat.reduceAdd, Nat.reduceLeDiff, f0_1, f0_2, f0_3, f0_9, f10, hd, hb, hc]; (first | done | rfl))
    | refine g_skT ?_ | refine g_skF ?_
    | ((first | apply g_goT | apply g_goF); · simp only [go_sem, Nat.reduceEqDiff, Nat.reduceAdd, Nat.reduceLeDiff, f0_1, f0_2, f0_3, f0_9, f10, hd]; (first | done | rfl))
    | (refine w_condT ?_ ?_; · simp only [go_sem, Nat.reduceEqDiff, Nat.reduceAdd, Nat.reduceLeDiff, f0_1, f0_2, f0_3, f0_9, f10, hd]; (first | done | rfl))
    | (refine w_condF ?_ ?_; · simp only [go_sem, Nat.reduceEqDiff, Nat.reduceAdd, Nat.reduceLeDiff, f0_1, f0_2, f0_3, f0_9, f10, hd]; (first | done | rfl))
    | refine w_skip ?_ | refine w_exit ?_ | refine w_ret ?_
    | fail
    )
    try simp only [if_true]
    have b1 : (0 : Int) ≤ (i : Int) ∧ (i : Int) < ((n + 1 : Nat) : Int) := by omega
    have hmod := modify_mid (txts done) (txt []) (List.replicate 0 (txt [])) (fun _ => txt rest)
    rw [htl, hdl] at hmod
    have hlen3 : (txts done ++ txt [] :: List.replicate 0 (txt [])).length = n + 1 := by simp [htl]; omega
    have hlt : i < n + 1 := by omega
    have w4 : IntKind.i64.wrap ((i : Int) + 1) = ((n + 1 : Nat) : Int) := by rw [IntKind.wrap_i64]; omega
    have b2 : bound (n + 1) (.sc (.int .i64 ((n + 1 : Nat) : Int))) = some (n + 1) := bound_nat (Nat.le_refl _)
    have hfin : txts done ++ txt rest :: List.replicate 0 (txt []) = txts (cutsC c s) := by rw [hcut]; simp [txts]
    have hl4 : (txts (cutsC c s)).length = n + 1 := by rw [txts_len, hlen]
    have htk : (txts (cutsC c s)).take (n + 1) = txts (cutsC c s) := List.take_of_length_le (by omega)
    have hfz : ∀ τ, (txts (cutsC c s)).mapM (fz τ 11) = some (txts (cutsC c s)) := fun τ => txts_fz τ 10 _
    (repeat' first
    | refine w_seq ?_ | refine w_rg ?_ | refine wo_nil ?_ | refine g_skU ?_
    | ((first | apply s_plain | apply s_void | apply s_guard); · simp only [go_sem, Nat.reduceEqDiff, Nat.reduceAdd, Nat.reduceLeDiff, e0_8, e0_9, f10, f0, hm, b1, hlt, Int.toNat_natCast, hmod, hlen3, hfin, w4, b2, slcLP, Nat.sub_zero]; (first | done | rfl))
    | ((first | apply g_T | apply g_F); · intro hb; simp only [go_sem, Nat.reduceEqDiff, Nat.reduceAdd, Nat.reduceLeDiff, e0_8, e0_9, f10, f0, hm, b1, hlt, Int.toNat_natCast, hmod, hlen3, hfin, w4, b2, slcLP, Nat.sub_zero, hb]; (first | done | rfl))
    | ((first | apply g_gT | apply g_gF); · intro hb hc; simp only [go_sem, Nat.reduceEqDiff, Nat.reduceAdd, Nat.reduceLeDiff, e0_8, e0_9, f10, f0, hm, b1, hlt, Int.toNat_natCast, hmod, hlen3, hfin, w4, b2, slcLP, Nat.sub_zero, hb, hc]; (first | done | rfl))
    | refine g_skT ?_ | refine g_skF ?_
    | ((first | apply g_goT | apply g_goF); · simp only [go_sem, Nat.reduceEqDiff, Nat.reduceAdd, Nat.reduceLeDiff, e0_8, e0_9, f10, f0, hm, b1, hlt, Int.toNat_natCast, hmod, hlen3, hfin, w4, b2, slcLP, Nat.sub_zero]; (first | done | rfl))
    | (refine w_condT ?_ ?_; · simp only [go_sem, Nat.reduceEqDiff, Nat.reduceAdd, Nat.reduceLeDiff, e0_8, e0_9, f10, f0, hm, b1, hlt, Int.toNat_natCast, hmod, hlen3, hfin, w4, b2, slcLP, Nat.sub_zero]; (first | done | rfl))
    | (refine w_condF ?_ ?_; · simp only [go_sem, Nat.reduceEqDiff, Nat.reduceAdd, Nat.reduceLeDiff, e0_8, e0_9, f10, f0, hm, b1, hlt, Int.toNat_natCast, hmod, hlen3, hfin, w4, b2, slcLP, Nat.sub_zero]; (first | done | rfl))
    | refine w_skip ?_ | refine w_exit ?_ | refine w_ret ?_
    | fail
    )
    exact ⟨by first | exact .inr rfl | exact .inr trivial | exact .inl rfl, by simp only [go_sem, Nat.reduceEqDiff, Nat.reduceAdd, Nat.reduceLeDiff, retOf, resOf, hl4, htk, hfz, List.drop_zero, Nat.le_refl]; first | done | rfl⟩
  | succ k =>
    have hd : decide ((i : Int) < (n : Int)) = true := by simp; omega
    rcases split1 c rest with hno | ⟨a, b, rfl, hno⟩
    · rw [← List.count_eq_zero] at hno; omega
    · have h44 := a44 C M (s := a ++ c :: b) (t := [c]) (by omega)
      rw [idx1_at hno] at h44
      rw [cutsC_at hno] at hcut
      simp only [List.length_append, List.length_cons] at hrl
      have n0 : decide ((a.length : Int) < 0) = false := by simp
      have w4 : IntKind.i64.wrap ((a.length : Int) + 0) = (a.length : Int) := by rw [IntKind.wrap_i64]; omega
      have w5 : IntKind.i64.wrap ((a.length : Int) + 1) = ((a.length + 1 : Nat) : Int) := by rw [IntKind.wrap_i64]; omega
      have w6 : IntKind.i64.wrap ((i : Int) + 1) = ((i + 1 : Nat) : Int) := by rw [IntKind.wrap_i64]; omega
      have hsl : (a ++ c :: b).length = a.length + (b.length + 1) := by simp
      have b3 : bound (a.length + (b.length + 1)) (.sc (.int .i64 (a.length : Int))) = some a.length := bound_nat (by omega)
      have b4 : bound (a.length + (b.length + 1)) (.sc (.int .i64 ((a.length + 1 : Nat) : Int))) = some (a.length + 1) := bound_nat (by omega)
      have t1 : (a ++ c :: b).take a.length = a := by simp
      have t2 : ((a ++ c :: b).take (a.length + (b.length + 1))).drop (a.length + 1) = b := by
        rw [← hsl, List.take_length]; simp
      have b1 : (0 : Int) ≤ (i : Int) ∧ (i : Int) < ((n + 1 : Nat) : Int) := by omega
      have hmod := modify_mid (txts done) (txt []) (List.replicate (k + 1) (txt [])) (fun _ => txt a)
      rw [htl, hdl] at hmod
      have hlen3 : (txts done ++ txt [] :: List.replicate (k + 1) (txt [])).length = n + 1 := by simp [htl]; omega
      have hlt : i < n + 1 := by omega
      (repeat' first
    | refine w_seq ?_ | refine w_rg ?_ | refine wo_nil ?_ | refine g_skU ?_
    | ((first | apply s_plain | apply s_void | apply s_guard); · simp only [go_sem, Nat.reduceEqDiff, Nat.reduceAdd, Nat.reduceLeDiff, f0_1, f0_2, f0_3, f0_9, f10, hd]; (first | done | rfl))
    | ((first | apply g_T | apply g_F); · intro hb; simp only [go_sem, Nat.reduceEqDiff, Nat.reduceAdd, Nat.reduceLeDiff, f0_1, f0_2, f0_3, f0_9, f10, hd, hb]; (first | done | rfl))
    | ((first | apply g_gT | apply g_gF); · intro hb hc; simp only [go_sem, Nat.reduceEqDiff, Nat.reduceAdd, Nat.reduceLeDiff, f0_1, f0_2, f0_3, f0_9, f10, hd, hb, hc]; (first | done | rfl))
    | refine g_skT ?_ | refine g_skF ?_
    | ((first | apply g_goT | apply g_goF); · simp only [go_sem, Nat.reduceEqDiff, Nat.reduceAdd, Nat.reduceLeDiff, f0_1, f0_2, f0_3, f0_9, f10, hd]; (first | done | rfl))
    | (refine w_condT ?_ ?_; · simp only [go_sem, Nat.reduceEqDiff, Nat.reduceAdd, Nat.reduceLeDiff, f0_1, f0_2, f0_3, f0_9, f10, hd]; (first | done | rfl))
    | (refine w_condF ?_ ?_; · simp only [go_sem, Nat.reduceEqDiff, Nat.reduceAdd, Nat.reduceLeDiff, f0_1, f0_2, f0_3, f0_9, f10, hd]; (first | done | rfl))
    | refine w_skip ?_ | refine w_exit ?_ | refine w_ret ?_
    | fail
    )
      refine w_block ?_
      have one : ((1 : Nat) : Int) = 1 := rfl
      (repeat' first
    | refine w_seq ?_ | refine w_rg ?_ | refine wo_nil ?_ | refine g_skU ?_
    | ((first | apply s_plain | apply s_void | apply s_guard); · simp only [go_sem, Nat.reduceEqDiff, Nat.reduceAdd, Nat.reduceLeDiff, f0_1, f0_2, f0_3, f0_9, f0, f10, one, h44, n0, w4, w5, w6, hsl, b3, b4, t1, t2, b1, hlt, hm, hmod, hlen3, Int.toNat_natCast, ba_data, ba_size, ba_toList, ba_extract, ba_append, List.toList_toArray, List.drop_zero]; (first | done | rfl))
    | ((first | apply g_T | apply g_F); · intro hb; simp only [go_sem, Nat.reduceEqDiff, Nat.reduceAdd, Nat.reduceLeDiff, f0_1, f0_2, f0_3, f0_9, f0, f10, one, h44, n0, w4, w5, w6, hsl, b3, b4, t1, t2, b1, hlt, hm, hmod, hlen3, Int.toNat_natCast, ba_data, ba_size, ba_toList, ba_extract, ba_append, List.toList_toArray, List.drop_zero, hb]; (first | done | rfl))
    | ((first | apply g_gT | apply g_gF); · intro hb hc; simp only [go_sem, Nat.reduceEqDiff, Nat.reduceAdd, Nat.reduceLeDiff, f0_1, f0_2, f0_3, f0_9, f0, f10, one, h44, n0, w4, w5, w6, hsl, b3, b4, t1, t2, b1, hlt, hm, hmod, hlen3, Int.toNat_natCast, ba_data, ba_size, ba_toList, ba_extract, ba_append, List.toList_toArray, List.drop_zero, hb, hc]; (first | done | rfl))
    | refine g_skT ?_ | refine g_skF ?_
    | ((first | apply g_goT | apply g_goF); · simp only [go_sem, Nat.reduceEqDiff, Nat.reduceAdd, Nat.reduceLeDiff, f0_1, f0_2, f0_3, f0_9, f0, f10, one, h44, n0, w4, w5, w6, hsl, b3, b4, t1, t2, b1, hlt, hm, hmod, hlen3, Int.toNat_natCast, ba_data, ba_size, ba_toList, ba_extract, ba_append, List.toList_toArray, List.drop_zero]; (first | done | rfl))
    | (refine w_condT ?_ ?_; · simp only [go_sem, Nat.reduceEqDiff, Nat.reduceAdd, Nat.reduceLeDiff, f0_1, f0_2, f0_3, f0_9, f0, f10, one, h44, n0, w4, w5, w6, hsl, b3, b4, t1, t2, b1, hlt, hm, hmod, hlen3, Int.toNat_natCast, ba_data, ba_size, ba_toList, ba_extract, ba_append, List.toList_toArray, List.drop_zero]; (first | done | rfl))
    | (refine w_condF ?_ ?_; · simp only [go_sem, Nat.reduceEqDiff, Nat.reduceAdd, Nat.reduceLeDiff, f0_1, f0_2, f0_3, f0_9, f0, f10, one, h44, n0, w4, w5, w6, hsl, b3, b4, t1, t2, b1, hlt, hm, hmod, hlen3, Int.toNat_natCast, ba_data, ba_size, ba_toList, ba_extract, ba_append, List.toList_toArray, List.drop_zero]; (first | done | rfl))
    | refine w_skip ?_ | refine w_exit ?_ | refine w_ret ?_
    | fail
    )
      refine ⟨k, by omega, i + 1, k, b, done ++ [a], rfl, by omega, by simp [hdl], by simp only [go_sem, Nat.reduceEqDiff, Nat.reduceAdd, Nat.reduceLeDiff], by simp only [go_sem, Nat.reduceEqDiff, Nat.reduceAdd, Nat.reduceLeDiff], ?_, by rw [hcut]; simp, by omega⟩
      simp only [go_sem, Nat.reduceEqDiff, Nat.reduceAdd, Nat.reduceLeDiff]
      rw [txts_app, List.append_assoc]
      rfl
theorem a18 (C : Has lca env) (M : Has lmb env) (N : Has lmc env) {s : List UInt8} (c : UInt8) (hs : s.length ≤ 4000000000) : AV env 18 [txt s, txt [c]] = some (.sl (txts (cutsC c s))) := by
  have h := a42 C M N (s := s) c hs
  refine AV_wp (N (18, d18) (by simp [lmc])) rfl ?_
  (repeat' first
    | refine w_seq ?_ | refine w_rg ?_ | refine wo_nil ?_ | refine g_skU ?_
    | ((first | apply s_plain | apply s_void | apply s_guard); · simp only [go_sem, Nat.reduceEqDiff, Nat.reduceAdd, Nat.reduceLeDiff, h]; (first | done | rfl))
    | ((first | apply g_T | apply g_F); · intro hb; simp only [go_sem, Nat.reduceEqDiff, Nat.reduceAdd, Nat.reduceLeDiff, h, hb]; (first | done | rfl))
    | ((first | apply g_gT | apply g_gF); · intro hb hc; simp only [go_sem, Nat.reduceEqDiff, Nat.reduceAdd, Nat.reduceLeDiff, h, hb, hc]; (first | done | rfl))
    | refine g_skT ?_ | refine g_skF ?_
    | ((first | apply g_goT | apply g_goF); · simp only [go_sem, Nat.reduceEqDiff, Nat.reduceAdd, Nat.reduceLeDiff, h]; (first | done | rfl))
    | (refine w_condT ?_ ?_; · simp only [go_sem, Nat.reduceEqDiff, Nat.reduceAdd, Nat.reduceLeDiff, h]; (first | done | rfl))
    | (refine w_condF ?_ ?_; · simp only [go_sem, Nat.reduceEqDiff, Nat.reduceAdd, Nat.reduceLeDiff, h]; (first | done | rfl))
    | refine w_skip ?_ | refine w_exit ?_ | refine w_ret ?_
    | fail
    )
  exact ⟨by first | exact .inr rfl | exact .inr trivial | exact .inl rfl, by simp only [go_sem, Nat.reduceEqDiff, Nat.reduceAdd, Nat.reduceLeDiff, retOf, resOf]; first | done | rfl⟩
end
end Go.Proofs.YtdlfomiclkpibaaDoorPv
namespace Go.Proofs.YtdlfomiclkpibaaDoorPv
open Go
set_option linter.unusedSimpArgs false
set_option linter.unusedVariables false
set_option maxHeartbeats 4000000
attribute [local go_sem ↓] e_mv e_pick e_bin e_eqs e_beq e_un e_cvi e_str e_s2b e_b2s e_box e_build e_bsl e_ld e_st e_nck e_mkf e_slcS e_slcL e_fa e_fld e_ia e_iaa e_ix e_ixa e_ext e_lenS e_lenL e_mnmx e_app e_appb e_bbx e_msl e_clr e_call e_callv pa_t pa_c pa_f slcSP_str hiOf_some hiOf_none loOf_some loOf_none set_eq set_ne
attribute [local go_sem] pv pv1 simple frOf_0 frOf_1 frOf_2 frOf_3 frOf_4 frOf_5 ne_eq not_false_eq_true if_true Bool.false_eq_true if_false pbin punary Option.map_some Option.bind_some pick_and pick_or opt_true Bool.true_and Bool.and_self Bool.and_true Bool.true_or Bool.false_or Bool.not_true Bool.not_false callE pcall_eq List.map_cons List.map_nil List.append_nil List.nil_append List.cons_append mapM_cons' mapM_nil' dep_eq fz_sc fz_sl fz_em fz_fn fz_fp fz_agg fz_tu fz_bx fz_ob Nat.lt_irrefl Nat.zero_lt_one Nat.lt_add_one flat clL cl Bool.or_true okc_sc okc_em okc_sl okc_ob okc_bx okc_fp okc_fn okc_agg okc_ifc cells_agg cells_sc cells_sl cells_em cells_ob cells_fn cells_bx cells_fp List.length_cons List.length_nil Nat.zero_add and_self true_and and_true new_m new_c put_m put_c nil_m nil_c deref List.getElem?_cons_zero List.getElem?_cons_succ List.drop_zero List.drop_succ_cons List.take_succ_cons List.take_zero Nat.le_refl false_and and_false decide_true decide_false lenP_em lenP_nil lenP_sl lenP_ob Int.ofNat_zero
set_option maxRecDepth 8000
/-- transhipment/transhipmentlaw06.BlockBack -/
def d5 : Def := (.code 2 [.tmp 4] (.seq (.rg false [⟨.some 4, .none, .mv (.c (.bool false))⟩]) (.seq (.rg true [⟨.some 17, .none, .mv (.t 0)⟩, ⟨.some 18, .none, .call 7 .strict [.t 17]⟩, ⟨.some 19, .none, .mv (.t 1)⟩, ⟨.some 20, .none, .mv (.t 1)⟩, ⟨.some 21, .none, .lenS (.t 20)⟩, ⟨.some 22, .none, .mnmx false [.t 21, .c (.int .i64 8200)]⟩, ⟨.some 23, .none, .slcS (.t 19) .none (.some (.t 22))⟩, ⟨.some 0, .none, .mv (.t 18)⟩, ⟨.some 1, .none, .mv (.t 23)⟩]) (.seq (.seq (.rg false [⟨.some 25, .none, .mv (.t 0)⟩, ⟨.some 26, .none, .call 8 .pure [.t 25]⟩, ⟨.some 24, .none, .mv (.t 26)⟩, ⟨.some 27, .none, .ext (.t 24) 0⟩, ⟨.some 28, .none, .ext (.t 24) 1⟩, ⟨.some 5, .none, .mv (.t 27)⟩, ⟨.some 6, .none, .mv (.t 28)⟩]) (.seq (.rg false [⟨.some 29, .none, .mv (.t 6)⟩, ⟨.some 30, .none, .bin .eql (.t 29) (.c (.int .i64 0))⟩]) (.cond (.t 30) (.seq (.rg false [⟨.some 32, .none, .mv (.t 5)⟩, ⟨.some 33, .none, .call 16 .pure [.t 32]⟩, ⟨.some 31, .none, .mv (.t 33)⟩, ⟨.some 34, .none, .ext (.t 31) 0⟩, ⟨.some 35, .none, .ext (.t 31) 1⟩, ⟨.some 36, .none, .ext (.t 31) 2⟩, ⟨.some 7, .none, .mv (.t 34)⟩, ⟨.some 8, .none, .mv (.t 35)⟩, ⟨.some 9, .none, .mv (.t 36)⟩]) (.seq (.rg false [⟨.some 37, .none, .mv (.t 8)⟩, ⟨.some 38, .none, .bin .neq (.t 37) (.c (.int .i64 0))⟩, ⟨.some 39, .none, .mv (.t 38)⟩, ⟨.some 40, .some (39, false), .mv (.t 0)⟩, ⟨.some 41, .some (39, false), .mv (.t 7)⟩, ⟨.some 42, .some (39, false), .call 12 .pure [.t 40, .t 41]⟩, ⟨.some 43, .some (39, false), .un .not (.t 42)⟩, ⟨.some 44, .none, .pick (.t 39) (.c (.bool true)) (.t 43)⟩]) (.cond (.t 44) (.seq (.rg false [⟨.some 4, .none, .mv (.c (.bool false))⟩]) .ret) .skip))) .skip))) (.seq (.rg false [⟨.some 46, .none, .mv (.t 1)⟩, ⟨.some 47, .none, .call 16 .pure [.t 46]⟩, ⟨.some 45, .none, .mv (.t 47)⟩, ⟨.some 48, .none, .ext (.t 45) 0⟩, ⟨.some 49, .none, .ext (.t 45) 1⟩, ⟨.some 50, .none, .ext (.t 45) 2⟩, ⟨.some 10, .none, .mv (.t 48)⟩, ⟨.some 11, .none, .mv (.t 49)⟩, ⟨.some 12, .none, .mv (.t 50)⟩]) (.seq (.seq (.rg false [⟨.some 51, .none, .mv (.t 11)⟩, ⟨.some 52, .none, .bin .neq (.t 51) (.c (.int .i64 0))⟩]) (.cond (.t 52) (.seq (.rg false [⟨.some 53, .none, .call 13 .pure []⟩, ⟨.some 54, .none, .mv (.t 53)⟩, ⟨.some 55, .some (54, true), .mv (.t 10)⟩, ⟨.some 56, .some (54, true), .lenL (.t 55)⟩, ⟨.some 57, .some (54, true), .bin .eql (.t 56) (.c (.int .i64 0))⟩, ⟨.some 58, .none, .pick (.t 54) (.t 57) (.c (.bool false))⟩, ⟨.some 4, .none, .mv (.t 58)⟩]) .ret) .skip)) (.seq (.rg false [⟨.some 60, .none, .mv (.t 10)⟩, ⟨.some 61, .none, .call 8 .pure [.t 60]⟩, ⟨.some 59, .none, .mv (.t 61)⟩, ⟨.some 62, .none, .ext (.t 59) 0⟩, ⟨.some 63, .none, .ext (.t 59) 1⟩, ⟨.some 13, .none, .mv (.t 62)⟩, ⟨.some 14, .none, .mv (.t 63)⟩]) (.seq (.seq (.rg false [⟨.some 64, .none, .mv (.t 14)⟩, ⟨.some 65, .none, .bin .neq (.t 64) (.c (.int .i64 0))⟩, ⟨.some 66, .none, .mv (.t 65)⟩, ⟨.some 67, .some (66, false), .mv (.t 10)⟩, ⟨.some 68, .some (66, false), .call 9 .pure [.t 67]⟩, ⟨.some 69, .some (66, false), .un .not (.t 68)⟩, ⟨.some 70, .none, .pick (.t 66) (.c (.bool true)) (.t 69)⟩, ⟨.some 71, .none, .mv (.t 70)⟩, ⟨.some 72, .some (71, false), .call 13 .pure []⟩, ⟨.some 73, .some (71, false), .un .not (.t 72)⟩, ⟨.some 74, .none, .pick (.t 71) (.c (.bool true)) (.t 73)⟩]) (.cond (.t 74) (.seq (.rg false [⟨.some 4, .none, .mv (.c (.bool false))⟩]) .ret) .skip)) (.seq (.seq (.rg false [⟨.some 75, .none, .mv (.t 1)⟩, ⟨.some 76, .none, .bin .eql (.t 75) (.c (.string ⟨#[]⟩))⟩]) (.cond (.t 76) (.seq (.rg false [⟨.some 77, .none, .mv (.t 13)⟩, ⟨.some 78, .none, .bin .eql (.t 77) (.c (.string ⟨#[]⟩))⟩, ⟨.some 4, .none, .mv (.t 78)⟩]) .ret) .skip)) (.seq (.seq (.rg false [⟨.some 79, .none, .mv (.t 1)⟩, ⟨.some 80, .none, .call 19 .pure [.t 79, .c (.string ⟨#[10]⟩)]⟩, ⟨.some 81, .none, .call 18 .pure [.t 80, .c (.string ⟨#[10]⟩)]⟩, ⟨.some 82, .none, .lenL (.t 81)⟩, ⟨.some 83, .none, .mv (.c (.int .i64 0))⟩]) (.block 0 (.loop (.seq (.rg false [⟨.some 84, .none, .bin .lss (.t 83) (.t 82)⟩]) (.seq (.cond (.t 84) .skip (.exit 0)) (.seq (.block 1 (.seq (.rg false [⟨.some 85, .none, .ia 1 (.t 81) (.t 83)⟩, ⟨.some 86, .none, .ld .none (.t 85)⟩, ⟨.some 16, .none, .mv (.t 86)⟩]) (.seq (.rg false [⟨.some 87, .none, .mv (.t 16)⟩, ⟨.some 88, .none, .call 20 .pure [.t 87]⟩]) (.cond (.t 88) (.seq (.rg false [⟨.some 89, .none, .mv (.t 13)⟩, ⟨.some 90, .none, .lenS (.t 89)⟩, ⟨.some 91, .none, .mv (.t 1)⟩, ⟨.some 92, .none, .lenS (.t 91)⟩, ⟨.some 93, .none, .bin .lss (.t 90) (.t 92)⟩, ⟨.some 4, .none, .mv (.t 93)⟩]) .ret) .skip)))) (.rg false [⟨.some 94, .none, .bin .add (.t 83) (.c (.int .i64 1))⟩, ⟨.some 83, .none, .mv (.t 94)⟩]))))))) (.seq (.rg false [⟨.some 95, .none, .mv (.t 13)⟩, ⟨.some 96, .none, .mv (.t 1)⟩, ⟨.some 97, .none, .bin .eql (.t 95) (.t 96)⟩, ⟨.some 4, .none, .mv (.t 97)⟩]) .ret)))))))))))
/-- transhipment/transhipmentlaw06.BlockNotes -/
def d6 : Def := (.code 4 [.tmp 8] (.seq (.rg false [⟨.some 8, .none, .mv (.c (.bool false))⟩]) (.seq (.rg true [⟨.some 18, .none, .mv (.t 0)⟩, ⟨.some 19, .none, .mv (.t 0)⟩, ⟨.some 20, .none, .lenS (.t 19)⟩, ⟨.some 21, .none, .mnmx false [.t 20, .c (.int .i64 6000)]⟩, ⟨.some 22, .none, .slcS (.t 18) .none (.some (.t 21))⟩, ⟨.some 23, .none, .mv (.t 1)⟩, ⟨.some 24, .none, .mv (.t 1)⟩, ⟨.some 25, .none, .lenS (.t 24)⟩, ⟨.some 26, .none, .mnmx false [.t 25, .c (.int .i64 40)]⟩, ⟨.some 27, .none, .slcS (.t 23) .none (.some (.t 26))⟩, ⟨.some 0, .none, .mv (.t 22)⟩, ⟨.some 1, .none, .mv (.t 27)⟩]) (.seq (.seq (.rg false [⟨.some 28, .none, .mv (.t 1)⟩, ⟨.some 29, .none, .call 21 .pure [.t 28, .c (.string ⟨#[10]⟩)]⟩, ⟨.some 30, .none, .mv (.t 29)⟩, ⟨.some 31, .some (30, false), .mv (.t 0)⟩, ⟨.some 32, .some (30, false), .call 22 .pure [.t 31, .c (.string ⟨#[10]⟩)]⟩, ⟨.some 33, .some (30, false), .un .not (.t 32)⟩, ⟨.some 34, .none, .pick (.t 30) (.c (.bool true)) (.t 33)⟩]) (.cond (.t 34) (.seq (.rg false [⟨.some 35, .none, .call 13 .pure []⟩, ⟨.some 8, .none, .mv (.t 35)⟩]) .ret) .skip)) (.seq (.rg false [⟨.some 36, .none, .mv (.t 0)⟩, ⟨.some 37, .none, .call 19 .pure [.t 36, .c (.string ⟨#[10]⟩)]⟩, ⟨.some 38, .none, .call 18 .pure [.t 37, .c (.string ⟨#[10]⟩)]⟩, ⟨.some 9, .none, .mv (.t 38)⟩]) (.seq (.rg false [⟨.some 39, .none, .mv (.t 2)⟩, ⟨.some 40, .none, .mv (.t 9)⟩, ⟨.some 41, .none, .lenL (.t 40)⟩, ⟨.some 42, .none, .bin .add (.t 41) (.c (.int .i64 1))⟩, ⟨.some 43, .none, .bin .rem (.t 39) (.t 42)⟩, ⟨.some 44, .none, .mv (.t 9)⟩, ⟨.some 45, .none, .lenL (.t 44)⟩, ⟨.some 46, .none, .bin .add (.t 43) (.t 45)⟩, ⟨.some 47, .none, .bin .add (.t 46) (.c (.int .i64 1))⟩, ⟨.some 48, .none, .mv (.t 9)⟩, ⟨.some 49, .none, .lenL (.t 48)⟩, ⟨.some 50, .none, .bin .add (.t 49) (.c (.int .i64 1))⟩, ⟨.some 51, .none, .bin .rem (.t 47) (.t 50)⟩, ⟨.some 2, .none, .mv (.t 51)⟩]) (.seq (.rg false [⟨.some 10, .none, .mv (.c (.string ⟨#[32, 35]⟩))⟩]) (.seq (.seq (.rg false [⟨.some 52, .none, .mv (.t 3)⟩]) (.cond (.t 52) (.rg false [⟨.some 10, .none, .mv (.c (.string ⟨#[9, 59]⟩))⟩]) .skip)) (.seq (.rg true [⟨.some 53, .none, .mv (.c (.slice .none 0 0))⟩, ⟨.some 54, .none, .mv (.t 9)⟩, ⟨.some 55, .none, .mv (.t 2)⟩, ⟨.some 56, .none, .slcL 1 (.t 54) .none (.some (.t 55))⟩, ⟨.some 58, .none, .mv (.t 10)⟩, ⟨.some 59, .none, .mv (.t 1)⟩, ⟨.some 60, .none, .bin .add (.t 58) (.t 59)⟩, ⟨.some 63, .none, .mv (.t 9)⟩, ⟨.some 64, .none, .mv (.t 2)⟩, ⟨.some 65, .none, .slcL 1 (.t 63) (.some (.t 64)) .none⟩, ⟨.some 57, .none, .app 1 16 false (.t 53) (.t 56)⟩, ⟨.some 61, .none, .bsl 1 (.string ⟨#[]⟩) 1 [(0, .t 60)]⟩, ⟨.some 62, .none, .app 1 16 false (.t 57) (.t 61)⟩, ⟨.some 66, .none, .app 1 16 false (.t 62) (.t 65)⟩, ⟨.some 11, .none, .mv (.t 66)⟩]) (.seq (.rg false [⟨.some 68, .none, .mv (.t 0)⟩, ⟨.some 69, .none, .call 16 .pure [.t 68]⟩, ⟨.some 67, .none, .mv (.t 69)⟩, ⟨.some 70, .none, .ext (.t 67) 0⟩, ⟨.some 71, .none, .ext (.t 67) 1⟩, ⟨.some 72, .none, .ext (.t 67) 2⟩, ⟨.some 12, .none, .mv (.t 70)⟩, ⟨.some 13, .none, .mv (.t 71)⟩, ⟨.some 14, .none, .mv (.t 72)⟩]) (.seq (.rg false [⟨.some 74, .none, .mv (.t 11)⟩, ⟨.some 75, .none, .call 23 .pure [.t 74, .c (.string ⟨#[10]⟩)]⟩, ⟨.some 76, .none, .bin .add (.t 75) (.c (.string ⟨#[10]⟩))⟩, ⟨.some 77, .none, .call 16 .pure [.t 76]⟩, ⟨.some 73, .none, .mv (.t 77)⟩, ⟨.some 78, .none, .ext (.t 73) 0⟩, ⟨.some 79, .none, .ext (.t 73) 1⟩, ⟨.some 80, .none, .ext (.t 73) 2⟩, ⟨.some 15, .none, .mv (.t 78)⟩, ⟨.some 16, .none, .mv (.t 79)⟩, ⟨.some 17, .none, .mv (.t 80)⟩]) (.seq (.seq (.rg false [⟨.some 81, .none, .mv (.t 14)⟩, ⟨.some 82, .none, .mv (.t 2)⟩, ⟨.some 83, .none, .bin .gtr (.t 81) (.t 82)⟩]) (.cond (.t 83) (.rg false [⟨.some 84, .none, .mv (.t 14)⟩, ⟨.some 85, .none, .bin .add (.t 84) (.c (.int .i64 1))⟩, ⟨.some 14, .none, .mv (.t 85)⟩]) .skip)) (.seq (.rg false [⟨.some 86, .none, .call 13 .pure []⟩, ⟨.some 87, .none, .mv (.t 86)⟩, ⟨.some 88, .some (87, true), .mv (.t 12)⟩, ⟨.some 89, .some (87, true), .mv (.t 15)⟩, ⟨.some 90, .some (87, true), .call 12 .pure [.t 88, .t 89]⟩, ⟨.some 91, .none, .pick (.t 87) (.t 90) (.c (.bool false))⟩, ⟨.some 92, .none, .mv (.t 91)⟩, ⟨.some 93, .some (92, true), .mv (.t 13)⟩, ⟨.some 94, .some (92, true), .mv (.t 16)⟩, ⟨.some 95, .some (92, true), .bin .eql (.t 93) (.t 94)⟩, ⟨.some 96, .none, .pick (.t 92) (.t 95) (.c (.bool false))⟩, ⟨.some 97, .none, .mv (.t 96)⟩, ⟨.some 98, .some (97, true), .mv (.t 14)⟩, ⟨.some 99, .some (97, true), .mv (.t 17)⟩, ⟨.some 100, .some (97, true), .bin .eql (.t 98) (.t 99)⟩, ⟨.some 101, .none, .pick (.t 97) (.t 100) (.c (.bool false))⟩, ⟨.some 8, .none, .mv (.t 101)⟩]) .ret)))))))))))))
def lmd : List (Nat × Def) := [(23, .prim joinF)]
def ldv : List (Nat × Def) := [(5, d5), (6, d6)]
section
variable {env : Nat → Option Def} {fr : Fr} {σ σ' σ'' : St} {K : Fr → St → Prop} {Q : X → Fr → St → Prop} {p : PV} {bs : List UInt8}
theorem join_cc' (a b sep : List UInt8) (c : List (List UInt8)) : Lib.join (a :: b :: c) sep = a ++ sep ++ Lib.join (b :: c) sep := by
  rw [Lib.join_cons, Lib.join_cons]
  simp [Lib.joinTail]
theorem suf_rest {s : List UInt8} (h : ([10] : List UInt8).isSuffixOf s = true) : (linesD s).2 = [] ∧ s ≠ [] := by
  rw [List.isSuffixOf_iff_suffix] at h
  obtain ⟨r, rfl⟩ := h
  refine ⟨?_, by simp⟩
  have e := linesD_unl (r ++ [10])
  have hno := linesD_rest (r ++ [10])
  rcases List.eq_nil_or_concat (linesD (r ++ [10])).2 with h | ⟨a, b, h⟩
  · exact h
  · rw [h] at e hno
    rw [List.concat_eq_append, ← List.append_assoc] at e
    have := (List.append_inj' e rfl).2
    simp only [List.cons.injEq, and_true] at this
    simp [this] at hno
theorem rows_cuts {s : List UInt8} (hs : s ≠ []) (h : (linesD s).2 = []) : cutsC 10 (cutSuf s [10]) = (linesD s).1 := by
  have e := linesD_unl s
  have hno := linesD_row s
  rw [h, List.append_nil] at e
  generalize (linesD s).1 = rows at *
  subst e
  rcases List.eq_nil_or_concat rows with rfl | ⟨a, b, rfl⟩
  · simp [unl] at hs
  · rw [List.concat_eq_append] at *
    have e2 : unl (a ++ [b]) = (unl a ++ b) ++ [10] := by simp [unl]
    have e3 : cutSuf (unl (a ++ [b])) [10] = unl a ++ b := by
      unfold cutSuf
      rw [e2, if_pos (by rw [List.isSuffixOf_iff_suffix]; exact List.suffix_append _ _)]
      rw [List.length_append, Nat.add_sub_cancel]
      exact List.take_left
    rw [e3, cutsC_lines, linesD_of (fun r hr => hno r (List.mem_append.2 (.inl hr))), linesD_no (hno b (by simp))]
    simp
theorem parse_nil : parseD [] = ([], 0, 0) := by simp [parseD, linesD, runD, endD]
theorem a5 (H : B6 env) (M : Has lma env) (M2 : Has lmb env) (M3 : Has lmc env) (V : Has ldv env) {l : List Df} (hl : l.length ≤ 9223372036854775807) (s0 : List UInt8) : AV env 5 [.sl (dfs l), txt s0] = some (.sc (.bool true)) := by
  have g1 := a7 H.dk hl
  have s1 := fewB_sms l
  have hls : (s0.take 8200).length ≤ 8200 := by rw [List.length_take]; omega
  have b1 : ∀ (n : Nat) (k : IntKind), bound n (.sc (.int k (min (n : Int) 8200))) = some (min n 8200) := fun n k => bound_min rfl
  have ct := u8_cut s0 8200
  refine AV_wp (V (5, d5) (by simp [ldv])) rfl ?_
  generalize fewB l = l at *
  generalize s0.take 8200 = s at hls ct
  have h8 := H.h8 s1
  have hal := H.al
  have h12 := a12 H.dg (a := l) (b := l) s1
  have h16 := H.h16 (s := s) (by omega)
  have sm := parseD_sms s
  have er := parseD_err (s := s)
  have ok := fun m k h => parseD_ok (s := s) (l := m) (at_ := k) h
  rcases hp : parseD s with ⟨m, f, k⟩
  rw [hp] at h16 sm er ok
  simp only at h16 sm er
  (repeat' first
    | refine w_seq ?_ | refine w_rg ?_ | refine wo_nil ?_ | refine g_skU ?_
    | ((first | apply s_plain | apply s_void | apply s_guard); · simp only [go_sem, Nat.reduceEqDiff, Nat.reduceAdd, Nat.reduceLeDiff, g1, h8, mn2, b1, ct, ba_data, ba_size, ba_toList, ba_extract, ba_append, List.toList_toArray, List.drop_zero]; (first | done | rfl))
    | ((first | apply g_T | apply g_F); · intro hb; simp only [go_sem, Nat.reduceEqDiff, Nat.reduceAdd, Nat.reduceLeDiff, g1, h8, mn2, b1, ct, ba_data, ba_size, ba_toList, ba_extract, ba_append, List.toList_toArray, List.drop_zero, hb]; (first | done | rfl))
    | ((first | apply g_gT | apply g_gF); · intro hb hc; simp only [go_sem, Nat.reduceEqDiff, Nat.reduceAdd, Nat.reduceLeDiff, g1, h8, mn2, b1, ct, ba_data, ba_size, ba_toList, ba_extract, ba_append, List.toList_toArray, List.drop_zero, hb, hc]; (first | done | rfl))
    | refine g_skT ?_ | refine g_skF ?_
    | ((first | apply g_goT | apply g_goF); · simp only [go_sem, Nat.reduceEqDiff, Nat.reduceAdd, Nat.reduceLeDiff, g1, h8, mn2, b1, ct, ba_data, ba_size, ba_toList, ba_extract, ba_append, List.toList_toArray, List.drop_zero]; (first | done | rfl))
    | fail
    )
  refine Wp.mono (Q := fun x fr τ => x = .normal ∧ fr 1 = txt s ∧ τ = St.nil) ?_ ?_
  · by_cases he : (printD l).2 = 0
    · have hpr : printD l = (textD l, 0) ∧ rightD l = true ∧ (textD l).length ≤ 8192 := by
        unfold printD at he ⊢
        split at he
        · rename_i h1
          split at he
          · cases he
          · rename_i h2
            rw [if_pos h1, if_neg h2]
            exact ⟨rfl, h1, by omega⟩
        · cases he
      obtain ⟨p1, r1, n1⟩ := hpr
      have h17 := H.h16 (s := textD l) (by omega)
      rw [parse_print r1 n1] at h17
      (repeat' first
    | refine w_seq ?_ | refine w_rg ?_ | refine wo_nil ?_ | refine g_skU ?_
    | ((first | apply s_plain | apply s_void | apply s_guard); · simp only [go_sem, Nat.reduceEqDiff, Nat.reduceAdd, Nat.reduceLeDiff, p1, h8, h17, h12, bne_self_eq_false, beq_self_eq_true]; (first | done | rfl))
    | ((first | apply g_T | apply g_F); · intro hb; simp only [go_sem, Nat.reduceEqDiff, Nat.reduceAdd, Nat.reduceLeDiff, p1, h8, h17, h12, bne_self_eq_false, beq_self_eq_true, hb]; (first | done | rfl))
    | ((first | apply g_gT | apply g_gF); · intro hb hc; simp only [go_sem, Nat.reduceEqDiff, Nat.reduceAdd, Nat.reduceLeDiff, p1, h8, h17, h12, bne_self_eq_false, beq_self_eq_true, hb, hc]; (first | done | rfl))
    | refine g_skT ?_ | refine g_skF ?_
    | ((first | apply g_goT | apply g_goF); · simp only [go_sem, Nat.reduceEqDiff, Nat.reduceAdd, Nat.reduceLeDiff, p1, h8, h17, h12, bne_self_eq_false, beq_self_eq_true]; (first | done | rfl))
    | (refine w_condT ?_ ?_; · simp only [go_sem, Nat.reduceEqDiff, Nat.reduceAdd, Nat.reduceLeDiff, p1, h8, h17, h12, bne_self_eq_false, beq_self_eq_true]; (first | done | rfl))
    | (refine w_condF ?_ ?_; · simp only [go_sem, Nat.reduceEqDiff, Nat.reduceAdd, Nat.reduceLeDiff, p1, h8, h17, h12, bne_self_eq_false, beq_self_eq_true]; (first | done | rfl))
    | refine w_skip ?_ | refine w_exit ?_ | refine w_ret ?_
    | fail
    )
      exact ⟨rfl, by simp only [go_sem, Nat.reduceEqDiff, Nat.reduceAdd, Nat.reduceLeDiff], rfl⟩
    · have hne : ((printD l).2 == 0) = false := by simpa using he
      (repeat' first
    | refine w_seq ?_ | refine w_rg ?_ | refine wo_nil ?_ | refine g_skU ?_
    | ((first | apply s_plain | apply s_void | apply s_guard); · simp only [go_sem, Nat.reduceEqDiff, Nat.reduceAdd, Nat.reduceLeDiff, h8, hne]; (first | done | rfl))
    | ((first | apply g_T | apply g_F); · intro hb; simp only [go_sem, Nat.reduceEqDiff, Nat.reduceAdd, Nat.reduceLeDiff, h8, hne, hb]; (first | done | rfl))
    | ((first | apply g_gT | apply g_gF); · intro hb hc; simp only [go_sem, Nat.reduceEqDiff, Nat.reduceAdd, Nat.reduceLeDiff, h8, hne, hb, hc]; (first | done | rfl))
    | refine g_skT ?_ | refine g_skF ?_
    | ((first | apply g_goT | apply g_goF); · simp only [go_sem, Nat.reduceEqDiff, Nat.reduceAdd, Nat.reduceLeDiff, h8, hne]; (first | done | rfl))
    | (refine w_condT ?_ ?_; · simp only [go_sem, Nat.reduceEqDiff, Nat.reduceAdd, Nat.reduceLeDiff, h8, hne]; (first | done | rfl))
    | (refine w_condF ?_ ?_; · simp only [go_sem, Nat.reduceEqDiff, Nat.reduceAdd, Nat.reduceLeDiff, h8, hne]; (first | done | rfl))
    | refine w_skip ?_ | refine w_exit ?_ | refine w_ret ?_
    | fail
    )
      exact ⟨rfl, by simp only [go_sem, Nat.reduceEqDiff, Nat.reduceAdd, Nat.reduceLeDiff], rfl⟩
  rintro x fr1 τ ⟨rfl, f1, rfl⟩
  by_cases hf : f = 0
  · subst hf
    obtain ⟨_, n1, hrest, r1, htx, _⟩ := ok m k rfl
    have hts : textD m = unl ((linesD s).1.filter fun r => !blankD r) := htx
    have hus := linesD_unl s
    rw [hrest, List.append_nil] at hus
    have hlen : (textD m).length ≤ s.length := by
      by_cases hb : ∃ r ∈ (linesD s).1, blankD r = true
      · have := unl_lt hb
        rw [← hts, hus] at this; omega
      · rw [hts, unl_filter (fun r hr => by
          cases h : blankD r with
          | false => rfl
          | true => exact absurd ⟨r, hr, h⟩ hb), hus]
        exact Nat.le_refl _
    have hpm : printD m = (textD m, 0) := by unfold printD; rw [r1, if_pos rfl, if_neg (by omega)]
    have h8m := H.h8 sm
    rw [hpm] at h8m
    have h9 := a9 H.aw H.da H.db H.dc sm
    rw [r1] at h9
    by_cases hs : s = []
    · subst hs
      rw [parse_nil] at hp
      simp only [Prod.mk.injEq] at hp
      obtain ⟨rfl, _, _⟩ := hp
      have e0 : textD [] = [] := rfl
      (repeat' first
    | refine w_seq ?_ | refine w_rg ?_ | refine wo_nil ?_ | refine g_skU ?_
    | ((first | apply s_plain | apply s_void | apply s_guard); · simp only [go_sem, Nat.reduceEqDiff, Nat.reduceAdd, Nat.reduceLeDiff, f1, h16, h8m, h9, hal, bne_self_eq_false, ba_data, ba_size, ba_toList, ba_extract, ba_append, List.toList_toArray, ba_nil, beq_self_eq_true]; (first | done | rfl))
    | ((first | apply g_T | apply g_F); · intro hb; simp only [go_sem, Nat.reduceEqDiff, Nat.reduceAdd, Nat.reduceLeDiff, f1, h16, h8m, h9, hal, bne_self_eq_false, ba_data, ba_size, ba_toList, ba_extract, ba_append, List.toList_toArray, ba_nil, beq_self_eq_true, hb]; (first | done | rfl))
    | ((first | apply g_gT | apply g_gF); · intro hb hc; simp only [go_sem, Nat.reduceEqDiff, Nat.reduceAdd, Nat.reduceLeDiff, f1, h16, h8m, h9, hal, bne_self_eq_false, ba_data, ba_size, ba_toList, ba_extract, ba_append, List.toList_toArray, ba_nil, beq_self_eq_true, hb, hc]; (first | done | rfl))
    | refine g_skT ?_ | refine g_skF ?_
    | ((first | apply g_goT | apply g_goF); · simp only [go_sem, Nat.reduceEqDiff, Nat.reduceAdd, Nat.reduceLeDiff, f1, h16, h8m, h9, hal, bne_self_eq_false, ba_data, ba_size, ba_toList, ba_extract, ba_append, List.toList_toArray, ba_nil, beq_self_eq_true]; (first | done | rfl))
    | (refine w_condT ?_ ?_; · simp only [go_sem, Nat.reduceEqDiff, Nat.reduceAdd, Nat.reduceLeDiff, f1, h16, h8m, h9, hal, bne_self_eq_false, ba_data, ba_size, ba_toList, ba_extract, ba_append, List.toList_toArray, ba_nil, beq_self_eq_true]; (first | done | rfl))
    | (refine w_condF ?_ ?_; · simp only [go_sem, Nat.reduceEqDiff, Nat.reduceAdd, Nat.reduceLeDiff, f1, h16, h8m, h9, hal, bne_self_eq_false, ba_data, ba_size, ba_toList, ba_extract, ba_append, List.toList_toArray, ba_nil, beq_self_eq_true]; (first | done | rfl))
    | refine w_skip ?_ | refine w_exit ?_ | refine w_ret ?_
    | fail
    )
      exact ⟨by first | exact .inr rfl | exact .inr trivial | exact .inl rfl, by simp only [go_sem, Nat.reduceEqDiff, Nat.reduceAdd, Nat.reduceLeDiff, retOf, resOf, e0, beq_self_eq_true]; first | done | rfl⟩
    · have hs1 : (s == []) = false := by simpa using hs
      have h19 := a19 H.dm M (s := s) (t := [10]) (by omega)
      have h18 := a18 H.ca M2 M3 (s := cutSuf s [10]) 10 (by
        have : (cutSuf s [10]).length ≤ s.length := by unfold cutSuf; split <;> simp
        omega)
      rw [rows_cuts hs hrest] at h18
      have hll := txts_len (linesD s).1
      (repeat' first
    | refine w_seq ?_ | refine w_rg ?_ | refine wo_nil ?_ | refine g_skU ?_
    | ((first | apply s_plain | apply s_void | apply s_guard); · simp only [go_sem, Nat.reduceEqDiff, Nat.reduceAdd, Nat.reduceLeDiff, f1, h16, h8m, h9, hal, bne_self_eq_false, ba_data, ba_size, ba_toList, ba_extract, ba_append, List.toList_toArray, ba_nil, hs1, h19, h18, hll]; (first | done | rfl))
    | ((first | apply g_T | apply g_F); · intro hb; simp only [go_sem, Nat.reduceEqDiff, Nat.reduceAdd, Nat.reduceLeDiff, f1, h16, h8m, h9, hal, bne_self_eq_false, ba_data, ba_size, ba_toList, ba_extract, ba_append, List.toList_toArray, ba_nil, hs1, h19, h18, hll, hb]; (first | done | rfl))
    | ((first | apply g_gT | apply g_gF); · intro hb hc; simp only [go_sem, Nat.reduceEqDiff, Nat.reduceAdd, Nat.reduceLeDiff, f1, h16, h8m, h9, hal, bne_self_eq_false, ba_data, ba_size, ba_toList, ba_extract, ba_append, List.toList_toArray, ba_nil, hs1, h19, h18, hll, hb, hc]; (first | done | rfl))
    | refine g_skT ?_ | refine g_skF ?_
    | ((first | apply g_goT | apply g_goF); · simp only [go_sem, Nat.reduceEqDiff, Nat.reduceAdd, Nat.reduceLeDiff, f1, h16, h8m, h9, hal, bne_self_eq_false, ba_data, ba_size, ba_toList, ba_extract, ba_append, List.toList_toArray, ba_nil, hs1, h19, h18, hll]; (first | done | rfl))
    | (refine w_condT ?_ ?_; · simp only [go_sem, Nat.reduceEqDiff, Nat.reduceAdd, Nat.reduceLeDiff, f1, h16, h8m, h9, hal, bne_self_eq_false, ba_data, ba_size, ba_toList, ba_extract, ba_append, List.toList_toArray, ba_nil, hs1, h19, h18, hll]; (first | done | rfl))
    | (refine w_condF ?_ ?_; · simp only [go_sem, Nat.reduceEqDiff, Nat.reduceAdd, Nat.reduceLeDiff, f1, h16, h8m, h9, hal, bne_self_eq_false, ba_data, ba_size, ba_toList, ba_extract, ba_append, List.toList_toArray, ba_nil, hs1, h19, h18, hll]; (first | done | rfl))
    | refine w_skip ?_ | refine w_exit ?_ | refine w_ret ?_
    | fail
    )
      have hrl : (linesD s).1.length ≤ s.length := by
        have h1 : ∀ l : List (List UInt8), l.length ≤ (unl l).length := fun l => by
          induction l with
          | nil => simp
          | cons x r ih => simp only [unl, List.flatMap_cons, List.length_append, List.length_cons] at ih ⊢; omega
        have := h1 (linesD s).1
        rw [hus] at this
        exact this
      refine w_block (w_rangeF (tc := 84) (ti := 83) (tn := 82) (tk := 94) (linesD s).1.length (by omega) (fun i fr σ => ∀ j r, j < i → (linesD s).1[j]? = some r → blankD r = false) ⟨by decide, rfl, rfl⟩ (fun _ _ _ _ h => ⟨h, h, h⟩) (fun j r h => by omega) (by simp only [go_sem, Nat.reduceEqDiff, Nat.reduceAdd, Nat.reduceLeDiff]; first | done | rfl) (by simp only [go_sem, Nat.reduceEqDiff, Nat.reduceAdd, Nat.reduceLeDiff, hll]; first | done | rfl) ?_ ?_)
      · rintro i fr2 σ2 hi hJ hti hfr2
        have z81 : fr2 81 = .sl (txts (linesD s).1) := by rw [hfr2 81 rfl]; simp only [go_sem, Nat.reduceEqDiff, Nat.reduceAdd, Nat.reduceLeDiff]
        have z13 : fr2 13 = txt (textD m) := by rw [hfr2 13 rfl]; simp only [go_sem, Nat.reduceEqDiff, Nat.reduceAdd, Nat.reduceLeDiff]
        have z1 : fr2 1 = txt s := by rw [hfr2 1 rfl]; simp only [go_sem, Nat.reduceEqDiff, Nat.reduceAdd, Nat.reduceLeDiff, f1]
        have hq := List.getElem?_eq_getElem hi
        have hx := txts_at hq
        have e1 : (0 : Int) ≤ (i : Int) ∧ (i : Int) < ((linesD s).1.length : Int) := by omega
        have hrow : (linesD s).1[i].length ≤ s.length := by
          have h1 : ∀ (l : List (List UInt8)) (x : List UInt8), x ∈ l → x.length ≤ (unl l).length := fun l x hx => by
            induction l with
            | nil => simp at hx
            | cons y r ih =>
              simp only [unl, List.flatMap_cons, List.length_append] at ih ⊢
              rcases List.mem_cons.1 hx with rfl | hx
              · omega
              · have := ih hx; omega
          have := h1 (linesD s).1 _ (List.getElem_mem hi)
          rw [hus] at this
          exact this
        have h20 := a20 H.dq (l := (linesD s).1[i]) (by omega)
        refine w_block ?_
        (repeat' first
    | refine w_seq ?_ | refine w_rg ?_ | refine wo_nil ?_ | refine g_skU ?_
    | ((first | apply s_plain | apply s_void | apply s_guard); · simp only [go_sem, Nat.reduceEqDiff, Nat.reduceAdd, Nat.reduceLeDiff, z81, z13, z1, hti, e1, hll, Int.toNat_natCast, hx, h20]; (first | done | rfl))
    | ((first | apply g_T | apply g_F); · intro hb; simp only [go_sem, Nat.reduceEqDiff, Nat.reduceAdd, Nat.reduceLeDiff, z81, z13, z1, hti, e1, hll, Int.toNat_natCast, hx, h20, hb]; (first | done | rfl))
    | ((first | apply g_gT | apply g_gF); · intro hb hc; simp only [go_sem, Nat.reduceEqDiff, Nat.reduceAdd, Nat.reduceLeDiff, z81, z13, z1, hti, e1, hll, Int.toNat_natCast, hx, h20, hb, hc]; (first | done | rfl))
    | refine g_skT ?_ | refine g_skF ?_
    | ((first | apply g_goT | apply g_goF); · simp only [go_sem, Nat.reduceEqDiff, Nat.reduceAdd, Nat.reduceLeDiff, z81, z13, z1, hti, e1, hll, Int.toNat_natCast, hx, h20]; (first | done | rfl))
    | fail
    )
        cases hb : blankD (linesD s).1[i] with
        | true =>
          have hlt := unl_lt (rows := (linesD s).1) ⟨_, List.getElem_mem hi, hb⟩
          rw [← hts, hus] at hlt
          have hd : decide (((textD m).length : Int) < (s.length : Int)) = true := by simp; omega
          (repeat' first
    | refine w_seq ?_ | refine w_rg ?_ | refine wo_nil ?_ | refine g_skU ?_
    | ((first | apply s_plain | apply s_void | apply s_guard); · simp only [go_sem, Nat.reduceEqDiff, Nat.reduceAdd, Nat.reduceLeDiff, z13, z1, ba_data, ba_size, ba_toList, ba_extract, ba_append, List.toList_toArray, hd]; (first | done | rfl))
    | ((first | apply g_T | apply g_F); · intro hb; simp only [go_sem, Nat.reduceEqDiff, Nat.reduceAdd, Nat.reduceLeDiff, z13, z1, ba_data, ba_size, ba_toList, ba_extract, ba_append, List.toList_toArray, hd, hb]; (first | done | rfl))
    | ((first | apply g_gT | apply g_gF); · intro hb hc; simp only [go_sem, Nat.reduceEqDiff, Nat.reduceAdd, Nat.reduceLeDiff, z13, z1, ba_data, ba_size, ba_toList, ba_extract, ba_append, List.toList_toArray, hd, hb, hc]; (first | done | rfl))
    | refine g_skT ?_ | refine g_skF ?_
    | ((first | apply g_goT | apply g_goF); · simp only [go_sem, Nat.reduceEqDiff, Nat.reduceAdd, Nat.reduceLeDiff, z13, z1, ba_data, ba_size, ba_toList, ba_extract, ba_append, List.toList_toArray, hd]; (first | done | rfl))
    | (refine w_condT ?_ ?_; · simp only [go_sem, Nat.reduceEqDiff, Nat.reduceAdd, Nat.reduceLeDiff, z13, z1, ba_data, ba_size, ba_toList, ba_extract, ba_append, List.toList_toArray, hd]; (first | done | rfl))
    | (refine w_condF ?_ ?_; · simp only [go_sem, Nat.reduceEqDiff, Nat.reduceAdd, Nat.reduceLeDiff, z13, z1, ba_data, ba_size, ba_toList, ba_extract, ba_append, List.toList_toArray, hd]; (first | done | rfl))
    | refine w_skip ?_ | refine w_exit ?_ | refine w_ret ?_
    | fail
    )
          exact ⟨by first | exact .inr rfl | exact .inr trivial | exact .inl rfl, by simp only [go_sem, Nat.reduceEqDiff, Nat.reduceAdd, Nat.reduceLeDiff, retOf, resOf]; first | done | rfl⟩
        | false =>
          (repeat' first
    | refine w_seq ?_ | refine w_rg ?_ | refine wo_nil ?_ | refine g_skU ?_
    | ((first | apply s_plain | apply s_void | apply s_guard); · simp only [go_sem, Nat.reduceEqDiff, Nat.reduceAdd, Nat.reduceLeDiff]; (first | done | rfl))
    | ((first | apply g_T | apply g_F); · intro hb; simp only [go_sem, Nat.reduceEqDiff, Nat.reduceAdd, Nat.reduceLeDiff, hb]; (first | done | rfl))
    | ((first | apply g_gT | apply g_gF); · intro hb hc; simp only [go_sem, Nat.reduceEqDiff, Nat.reduceAdd, Nat.reduceLeDiff, hb, hc]; (first | done | rfl))
    | refine g_skT ?_ | refine g_skF ?_
    | ((first | apply g_goT | apply g_goF); · simp only [go_sem, Nat.reduceEqDiff, Nat.reduceAdd, Nat.reduceLeDiff]; (first | done | rfl))
    | (refine w_condT ?_ ?_; · simp only [go_sem, Nat.reduceEqDiff, Nat.reduceAdd, Nat.reduceLeDiff]; (first | done | rfl))
    | (refine w_condF ?_ ?_; · simp only [go_sem, Nat.reduceEqDiff, Nat.reduceAdd, Nat.reduceLeDiff]; (first | done | rfl))
    | refine w_skip ?_ | refine w_exit ?_ | refine w_ret ?_
    | fail
    )
          intro j r hj hr
          by_cases hji : j = i
          · subst hji
            rw [hq] at hr
            simp only [Option.some.injEq] at hr
            rw [← hr]; exact hb
          · exact hJ j r (by omega) hr
      · rintro fr2 σ2 hJ hfr2
        have z13 : fr2 13 = txt (textD m) := by rw [hfr2 13 rfl]; simp only [go_sem, Nat.reduceEqDiff, Nat.reduceAdd, Nat.reduceLeDiff]
        have z1 : fr2 1 = txt s := by rw [hfr2 1 rfl]; simp only [go_sem, Nat.reduceEqDiff, Nat.reduceAdd, Nat.reduceLeDiff, f1]
        have heq : textD m = s := by
          rw [hts, unl_filter (fun r hr => by
            obtain ⟨j, hj⟩ := List.getElem?_of_mem hr
            exact hJ j r (List.getElem?_eq_some_iff.1 hj).1 hj), hus]
        try simp only [if_true]
        (repeat' first
    | refine w_seq ?_ | refine w_rg ?_ | refine wo_nil ?_ | refine g_skU ?_
    | ((first | apply s_plain | apply s_void | apply s_guard); · simp only [go_sem, Nat.reduceEqDiff, Nat.reduceAdd, Nat.reduceLeDiff, z13, z1, heq, ba_data, ba_size, ba_toList, ba_extract, ba_append, List.toList_toArray, beq_self_eq_true]; (first | done | rfl))
    | ((first | apply g_T | apply g_F); · intro hb; simp only [go_sem, Nat.reduceEqDiff, Nat.reduceAdd, Nat.reduceLeDiff, z13, z1, heq, ba_data, ba_size, ba_toList, ba_extract, ba_append, List.toList_toArray, beq_self_eq_true, hb]; (first | done | rfl))
    | ((first | apply g_gT | apply g_gF); · intro hb hc; simp only [go_sem, Nat.reduceEqDiff, Nat.reduceAdd, Nat.reduceLeDiff, z13, z1, heq, ba_data, ba_size, ba_toList, ba_extract, ba_append, List.toList_toArray, beq_self_eq_true, hb, hc]; (first | done | rfl))
    | refine g_skT ?_ | refine g_skF ?_
    | ((first | apply g_goT | apply g_goF); · simp only [go_sem, Nat.reduceEqDiff, Nat.reduceAdd, Nat.reduceLeDiff, z13, z1, heq, ba_data, ba_size, ba_toList, ba_extract, ba_append, List.toList_toArray, beq_self_eq_true]; (first | done | rfl))
    | (refine w_condT ?_ ?_; · simp only [go_sem, Nat.reduceEqDiff, Nat.reduceAdd, Nat.reduceLeDiff, z13, z1, heq, ba_data, ba_size, ba_toList, ba_extract, ba_append, List.toList_toArray, beq_self_eq_true]; (first | done | rfl))
    | (refine w_condF ?_ ?_; · simp only [go_sem, Nat.reduceEqDiff, Nat.reduceAdd, Nat.reduceLeDiff, z13, z1, heq, ba_data, ba_size, ba_toList, ba_extract, ba_append, List.toList_toArray, beq_self_eq_true]; (first | done | rfl))
    | refine w_skip ?_ | refine w_exit ?_ | refine w_ret ?_
    | fail
    )
        exact ⟨by first | exact .inr rfl | exact .inr trivial | exact .inl rfl, by simp only [go_sem, Nat.reduceEqDiff, Nat.reduceAdd, Nat.reduceLeDiff, retOf, resOf]; first | done | rfl⟩
  · have hf1 : (f != 0) = true := by simpa using hf
    have hm0 := (er hf).1
    subst hm0
    (repeat' first
    | refine w_seq ?_ | refine w_rg ?_ | refine wo_nil ?_ | refine g_skU ?_
    | ((first | apply s_plain | apply s_void | apply s_guard); · simp only [go_sem, Nat.reduceEqDiff, Nat.reduceAdd, Nat.reduceLeDiff, f1, h16, hf1, hal, dfs, List.map_nil, beq_self_eq_true]; (first | done | rfl))
    | ((first | apply g_T | apply g_F); · intro hb; simp only [go_sem, Nat.reduceEqDiff, Nat.reduceAdd, Nat.reduceLeDiff, f1, h16, hf1, hal, dfs, List.map_nil, beq_self_eq_true, hb]; (first | done | rfl))
    | ((first | apply g_gT | apply g_gF); · intro hb hc; simp only [go_sem, Nat.reduceEqDiff, Nat.reduceAdd, Nat.reduceLeDiff, f1, h16, hf1, hal, dfs, List.map_nil, beq_self_eq_true, hb, hc]; (first | done | rfl))
    | refine g_skT ?_ | refine g_skF ?_
    | ((first | apply g_goT | apply g_goF); · simp only [go_sem, Nat.reduceEqDiff, Nat.reduceAdd, Nat.reduceLeDiff, f1, h16, hf1, hal, dfs, List.map_nil, beq_self_eq_true]; (first | done | rfl))
    | (refine w_condT ?_ ?_; · simp only [go_sem, Nat.reduceEqDiff, Nat.reduceAdd, Nat.reduceLeDiff, f1, h16, hf1, hal, dfs, List.map_nil, beq_self_eq_true]; (first | done | rfl))
    | (refine w_condF ?_ ?_; · simp only [go_sem, Nat.reduceEqDiff, Nat.reduceAdd, Nat.reduceLeDiff, f1, h16, hf1, hal, dfs, List.map_nil, beq_self_eq_true]; (first | done | rfl))
    | refine w_skip ?_ | refine w_exit ?_ | refine w_ret ?_
    | fail
    )
    exact ⟨by first | exact .inr rfl | exact .inr trivial | exact .inl rfl, by simp only [go_sem, Nat.reduceEqDiff, Nat.reduceAdd, Nat.reduceLeDiff, retOf, resOf]; first | done | rfl⟩
theorem a23 (J : Has lmd env) {l : List (List UInt8)} {t : List UInt8} (hl : l.length ≤ 140737488355328) (hj : (Lib.join l t).length ≤ 140737488355328) : AV env 23 [.sl (txts l), txt t] = some (txt (Lib.join l t)) := by
  have h := J (23, .prim joinF) (by simp [lmd])
  refine AV_of (σ := St.nil) (r := txt (Lib.join l t)) ?_ rfl
  rw [EV_prim h]
  have hm : (txts l).mapM strOf = some (l.map fun x => (⟨x.toArray⟩ : ByteArray)) := by
    induction l with
    | nil => rfl
    | cons x r ih =>
      have h1 : r.length ≤ 140737488355328 := by simp at hl; omega
      have h2 : (Lib.join r t).length ≤ 140737488355328 := by
        cases r with
        | nil => simp [Lib.join_nil]
        | cons y s =>
          rw [join_cc'] at hj
          simp only [List.length_append] at hj; omega
      show List.mapM strOf (txt x :: txts r) = _
      rw [mapM_cons', ih h1 h2]
      rfl
  have hmm : (l.map fun x => (⟨x.toArray⟩ : ByteArray)).map (·.data.toList) = l := by
    rw [List.map_map]
    conv => rhs; rw [← List.map_id l]
    apply List.map_congr_left
    intro x _
    simp
  simp only [joinF, hm, Option.bind_some, hmm, List.length_map, List.toList_toArray]
  rw [if_pos ⟨hl, hj⟩]
theorem join_unl : ∀ {l : List (List UInt8)}, l ≠ [] → Lib.join l [10] ++ [10] = unl l
  | [], h => absurd rfl h
  | [x], _ => by rw [Lib.join_one]; simp [unl]
  | x :: y :: r, _ => by
    have ih := join_unl (l := y :: r) (by simp)
    rw [join_cc']
    simp only [unl, List.flatMap_cons, List.append_assoc] at ih ⊢
    rw [ih]
theorem parse_at (s : List UInt8) : 0 ≤ (parseD s).2.2 ∧ (parseD s).2.2 ≤ s.length + 1 := by
  have h1 : ∀ l : List (List UInt8), l.length ≤ (unl l).length := fun l => by
    induction l with
    | nil => simp
    | cons x r ih => simp only [unl, List.flatMap_cons, List.length_append, List.length_cons] at ih ⊢; omega
  have h2 : (linesD s).1.length ≤ s.length := by
    have h3 := h1 (linesD s).1
    have h4 := congrArg List.length (linesD_unl s)
    rw [List.length_append] at h4
    omega
  unfold parseD
  split
  · simp; omega
  · cases h : runD ⟨[], none⟩ (linesD s).1 1 with
    | inl n =>
      have := (runD_bad _ _ _ _ h).2
      simp only [endD]; omega
    | inr q =>
      obtain ⟨r, n⟩ := q
      have := runD_at _ _ _ _ _ h
      simp only [endD]
      split <;> simp <;> omega
theorem tmod_rng {x : Int} {n : Nat} (hx : -((n : Int) + 1) < x) (h2 : x < (n : Int) + 1) : ∃ a : Nat, (x + n + 1).tmod ((n : Int) + 1) = a ∧ a ≤ n := by
  have h0 : 0 ≤ x + n + 1 := by omega
  have h1 := Int.tmod_nonneg ((n : Int) + 1) h0
  have h3 := Int.tmod_lt_of_pos (x + n + 1) (show 0 < (n : Int) + 1 by omega)
  exact ⟨((x + n + 1).tmod ((n : Int) + 1)).toNat, by omega, by omega⟩
theorem a6 (H : B6 env) (M : Has lma env) (M2 : Has lmb env) (M3 : Has lmc env) (J : Has lmd env) (V : Has ldv env) (s0 n0 : List UInt8) (at_ : Int) (hat : -9223372036854775808 ≤ at_ ∧ at_ ≤ 9223372036854775807) (sign : Bool) : AV env 6 [txt s0, txt n0, .sc (.int .i64 at_), .sc (.bool sign)] = some (.sc (.bool true)) := by
  have hls : (s0.take 6000).length ≤ 6000 := by rw [List.length_take]; omega
  have hln : (n0.take 40).length ≤ 40 := by rw [List.length_take]; omega
  have b1 : ∀ (n : Nat) (k : IntKind), bound n (.sc (.int k (min (n : Int) 6000))) = some (min n 6000) := fun n k => bound_min rfl
  have b2 : ∀ (n : Nat) (k : IntKind), bound n (.sc (.int k (min (n : Int) 40))) = some (min n 40) := fun n k => bound_min rfl
  have ct := u8_cut s0 6000
  have ct2 := u8_cut n0 40
  refine AV_wp (V (6, d6) (by simp [ldv])) rfl ?_
  generalize s0.take 6000 = s at hls ct
  generalize n0.take 40 = note at hln ct2
  have hal := H.al
  have h21 := a21 H.ca M2 (s := note) 10 (by omega)
  have h22 := a22 H.dm M (s := s) (t := [10]) (by omega)
  (repeat' first
    | refine w_seq ?_ | refine w_rg ?_ | refine wo_nil ?_ | refine g_skU ?_
    | ((first | apply s_plain | apply s_void | apply s_guard); · simp only [go_sem, Nat.reduceEqDiff, Nat.reduceAdd, Nat.reduceLeDiff, mn2, b1, b2, ct, ct2, h21, h22, ba_data, ba_size, ba_toList, ba_extract, ba_append, List.toList_toArray, List.drop_zero]; (first | done | rfl))
    | ((first | apply g_T | apply g_F); · intro hb; simp only [go_sem, Nat.reduceEqDiff, Nat.reduceAdd, Nat.reduceLeDiff, mn2, b1, b2, ct, ct2, h21, h22, ba_data, ba_size, ba_toList, ba_extract, ba_append, List.toList_toArray, List.drop_zero, hb]; (first | done | rfl))
    | ((first | apply g_gT | apply g_gF); · intro hb hc; simp only [go_sem, Nat.reduceEqDiff, Nat.reduceAdd, Nat.reduceLeDiff, mn2, b1, b2, ct, ct2, h21, h22, ba_data, ba_size, ba_toList, ba_extract, ba_append, List.toList_toArray, List.drop_zero, hb, hc]; (first | done | rfl))
    | refine g_skT ?_ | refine g_skF ?_
    | ((first | apply g_goT | apply g_goF); · simp only [go_sem, Nat.reduceEqDiff, Nat.reduceAdd, Nat.reduceLeDiff, mn2, b1, b2, ct, ct2, h21, h22, ba_data, ba_size, ba_toList, ba_extract, ba_append, List.toList_toArray, List.drop_zero]; (first | done | rfl))
    | fail
    )
  by_cases hc : (10 : UInt8) ∉ note ∧ ([10] : List UInt8).isSuffixOf s = true
  · obtain ⟨hnn, hsuf⟩ := hc
    obtain ⟨hrest, hs⟩ := suf_rest hsuf
    have hcn : note.contains 10 = false := by simpa using hnn
    have h19 := a19 H.dm M (s := s) (t := [10]) (by omega)
    have h18 := a18 H.ca M2 M3 (s := cutSuf s [10]) 10 (by
      have : (cutSuf s [10]).length ≤ s.length := by unfold cutSuf; split <;> simp
      omega)
    rw [rows_cuts hs hrest] at h18
    have hus := linesD_unl s
    rw [hrest, List.append_nil] at hus
    have hno := linesD_row s
    have hrl : (linesD s).1.length ≤ s.length := by
      have h1 : ∀ l : List (List UInt8), l.length ≤ (unl l).length := fun l => by
        induction l with
        | nil => simp
        | cons x r ih => simp only [unl, List.flatMap_cons, List.length_append, List.length_cons] at ih ⊢; omega
      have := h1 (linesD s).1
      rw [hus] at this
      exact this
    generalize (linesD s).1 = rows at *
    have hrn := txts_len rows
    have w1 : IntKind.i64.wrap ((rows.length : Int) + 1) = (rows.length : Int) + 1 := by rw [IntKind.wrap_i64]; omega
    have m1 := Int.tmod_lt_of_pos at_ (show 0 < (rows.length : Int) + 1 by omega)
    have m2 := Int.lt_tmod_of_pos at_ (show 0 < (rows.length : Int) + 1 by omega)
    have hz : ((rows.length : Int) + 1 = 0) = False := by simp; omega
    obtain ⟨a, ha, hal2⟩ := tmod_rng (n := rows.length) m2 m1
    have w2 : IntKind.i64.wrap (at_.tmod ((rows.length : Int) + 1) + (rows.length : Int)) = at_.tmod ((rows.length : Int) + 1) + (rows.length : Int) := by rw [IntKind.wrap_i64]; omega
    have w3 : IntKind.i64.wrap (at_.tmod ((rows.length : Int) + 1) + (rows.length : Int) + 1) = at_.tmod ((rows.length : Int) + 1) + (rows.length : Int) + 1 := by rw [IntKind.wrap_i64]; omega
    (repeat' first
    | refine w_seq ?_ | refine w_rg ?_ | refine wo_nil ?_ | refine g_skU ?_
    | ((first | apply s_plain | apply s_void | apply s_guard); · simp only [go_sem, Nat.reduceEqDiff, Nat.reduceAdd, Nat.reduceLeDiff, hcn, hsuf]; (first | done | rfl))
    | ((first | apply g_T | apply g_F); · intro hb; simp only [go_sem, Nat.reduceEqDiff, Nat.reduceAdd, Nat.reduceLeDiff, hcn, hsuf, hb]; (first | done | rfl))
    | ((first | apply g_gT | apply g_gF); · intro hb hc; simp only [go_sem, Nat.reduceEqDiff, Nat.reduceAdd, Nat.reduceLeDiff, hcn, hsuf, hb, hc]; (first | done | rfl))
    | refine g_skT ?_ | refine g_skF ?_
    | ((first | apply g_goT | apply g_goF); · simp only [go_sem, Nat.reduceEqDiff, Nat.reduceAdd, Nat.reduceLeDiff, hcn, hsuf]; (first | done | rfl))
    | fail
    )
    (repeat' first
    | refine w_seq ?_ | refine w_rg ?_ | refine wo_nil ?_ | refine g_skU ?_
    | ((first | apply s_plain | apply s_void | apply s_guard); · simp only [go_sem, Nat.reduceEqDiff, Nat.reduceAdd, Nat.reduceLeDiff, hcn, hsuf, h19, h18, hrn, w1, w2, w3, ha, hz]; (first | done | rfl))
    | ((first | apply g_T | apply g_F); · intro hb; simp only [go_sem, Nat.reduceEqDiff, Nat.reduceAdd, Nat.reduceLeDiff, hcn, hsuf, h19, h18, hrn, w1, w2, w3, ha, hz, hb]; (first | done | rfl))
    | ((first | apply g_gT | apply g_gF); · intro hb hc; simp only [go_sem, Nat.reduceEqDiff, Nat.reduceAdd, Nat.reduceLeDiff, hcn, hsuf, h19, h18, hrn, w1, w2, w3, ha, hz, hb, hc]; (first | done | rfl))
    | refine g_skT ?_ | refine g_skF ?_
    | ((first | apply g_goT | apply g_goF); · simp only [go_sem, Nat.reduceEqDiff, Nat.reduceAdd, Nat.reduceLeDiff, hcn, hsuf, h19, h18, hrn, w1, w2, w3, ha, hz]; (first | done | rfl))
    | (refine w_condT ?_ ?_; · simp only [go_sem, Nat.reduceEqDiff, Nat.reduceAdd, Nat.reduceLeDiff, hcn, hsuf, h19, h18, hrn, w1, w2, w3, ha, hz]; (first | done | rfl))
    | (refine w_condF ?_ ?_; · simp only [go_sem, Nat.reduceEqDiff, Nat.reduceAdd, Nat.reduceLeDiff, hcn, hsuf, h19, h18, hrn, w1, w2, w3, ha, hz]; (first | done | rfl))
    | refine w_skip ?_ | refine w_exit ?_ | refine w_ret ?_
    | fail
    )
    refine Wp.mono (Q := fun x fr τ => x = .normal ∧ (∃ c1 c2, fr 10 = txt [c1, c2] ∧ spB c1 = true ∧ (c2 = 35 ∨ c2 = 59)) ∧ fr 2 = .sc (.int .i64 (a : Int)) ∧ fr 9 = .sl (txts rows) ∧ fr 0 = txt s ∧ fr 1 = txt note ∧ τ = St.nil) ?_ ?_
    · cases sign with
      | true =>
        (repeat' first
    | refine w_seq ?_ | refine w_rg ?_ | refine wo_nil ?_ | refine g_skU ?_
    | ((first | apply s_plain | apply s_void | apply s_guard); · simp only [go_sem, Nat.reduceEqDiff, Nat.reduceAdd, Nat.reduceLeDiff]; (first | done | rfl))
    | ((first | apply g_T | apply g_F); · intro hb; simp only [go_sem, Nat.reduceEqDiff, Nat.reduceAdd, Nat.reduceLeDiff, hb]; (first | done | rfl))
    | ((first | apply g_gT | apply g_gF); · intro hb hc; simp only [go_sem, Nat.reduceEqDiff, Nat.reduceAdd, Nat.reduceLeDiff, hb, hc]; (first | done | rfl))
    | refine g_skT ?_ | refine g_skF ?_
    | ((first | apply g_goT | apply g_goF); · simp only [go_sem, Nat.reduceEqDiff, Nat.reduceAdd, Nat.reduceLeDiff]; (first | done | rfl))
    | (refine w_condT ?_ ?_; · simp only [go_sem, Nat.reduceEqDiff, Nat.reduceAdd, Nat.reduceLeDiff]; (first | done | rfl))
    | (refine w_condF ?_ ?_; · simp only [go_sem, Nat.reduceEqDiff, Nat.reduceAdd, Nat.reduceLeDiff]; (first | done | rfl))
    | refine w_skip ?_ | refine w_exit ?_ | refine w_ret ?_
    | fail
    )
        exact ⟨rfl, ⟨9, 59, by simp only [go_sem, Nat.reduceEqDiff, Nat.reduceAdd, Nat.reduceLeDiff], rfl, .inr rfl⟩, by simp only [go_sem, Nat.reduceEqDiff, Nat.reduceAdd, Nat.reduceLeDiff], by simp only [go_sem, Nat.reduceEqDiff, Nat.reduceAdd, Nat.reduceLeDiff], by simp only [go_sem, Nat.reduceEqDiff, Nat.reduceAdd, Nat.reduceLeDiff], by simp only [go_sem, Nat.reduceEqDiff, Nat.reduceAdd, Nat.reduceLeDiff], rfl⟩
      | false =>
        (repeat' first
    | refine w_seq ?_ | refine w_rg ?_ | refine wo_nil ?_ | refine g_skU ?_
    | ((first | apply s_plain | apply s_void | apply s_guard); · simp only [go_sem, Nat.reduceEqDiff, Nat.reduceAdd, Nat.reduceLeDiff]; (first | done | rfl))
    | ((first | apply g_T | apply g_F); · intro hb; simp only [go_sem, Nat.reduceEqDiff, Nat.reduceAdd, Nat.reduceLeDiff, hb]; (first | done | rfl))
    | ((first | apply g_gT | apply g_gF); · intro hb hc; simp only [go_sem, Nat.reduceEqDiff, Nat.reduceAdd, Nat.reduceLeDiff, hb, hc]; (first | done | rfl))
    | refine g_skT ?_ | refine g_skF ?_
    | ((first | apply g_goT | apply g_goF); · simp only [go_sem, Nat.reduceEqDiff, Nat.reduceAdd, Nat.reduceLeDiff]; (first | done | rfl))
    | (refine w_condT ?_ ?_; · simp only [go_sem, Nat.reduceEqDiff, Nat.reduceAdd, Nat.reduceLeDiff]; (first | done | rfl))
    | (refine w_condF ?_ ?_; · simp only [go_sem, Nat.reduceEqDiff, Nat.reduceAdd, Nat.reduceLeDiff]; (first | done | rfl))
    | refine w_skip ?_ | refine w_exit ?_ | refine w_ret ?_
    | fail
    )
        exact ⟨rfl, ⟨32, 35, by simp only [go_sem, Nat.reduceEqDiff, Nat.reduceAdd, Nat.reduceLeDiff], rfl, .inl rfl⟩, by simp only [go_sem, Nat.reduceEqDiff, Nat.reduceAdd, Nat.reduceLeDiff], by simp only [go_sem, Nat.reduceEqDiff, Nat.reduceAdd, Nat.reduceLeDiff], by simp only [go_sem, Nat.reduceEqDiff, Nat.reduceAdd, Nat.reduceLeDiff], by simp only [go_sem, Nat.reduceEqDiff, Nat.reduceAdd, Nat.reduceLeDiff], rfl⟩
    rintro x fr1 τ ⟨rfl, ⟨c1, c2, f10, hc1, hc2⟩, f2, f9, f0, f1, rfl⟩
    have hbl := parse_blanks (note := note) c1 c2 hc1 hc2
    have ba : bound rows.length (.sc (.int .i64 (a : Int))) = some a := bound_nat hal2
    have hall := txts_all rows
    have t1 : (txts rows).take a = txts (rows.take a) := by simp [txts]
    have t2 : ((txts rows).take rows.length).drop a = txts (rows.drop a) := by
      rw [List.take_of_length_le (by rw [hrn]; exact Nat.le_refl _)]; simp [txts]
    have hsz : 2 + note.length ≤ 9223372036854775807 := by omega
    have okl : ∀ l : List (List UInt8), ((txts l).all fun y => okc y && (cellsOf y).length == 1) = true := fun l => by
      rw [List.all_eq_true]; intro y hy; obtain ⟨z, _, rfl⟩ := List.mem_map.1 hy; rfl
    have hnx : (10 : UInt8) ∉ c1 :: c2 :: note := by
      simp only [List.mem_cons, not_or]
      refine ⟨?_, ?_, hnn⟩
      · rintro rfl; cases hc1
      · rintro rfl; rcases hc2 with h | h <;> cases h
    have hcat : ([c1, c2] : List UInt8) ++ note = c1 :: c2 :: note := rfl
    (repeat' first
    | refine w_seq ?_ | refine w_rg ?_ | refine wo_nil ?_ | refine g_skU ?_
    | ((first | apply s_plain | apply s_void | apply s_guard); · simp only [go_sem, Nat.reduceEqDiff, Nat.reduceAdd, Nat.reduceLeDiff, f0, f1, f2, f9, f10, slcLP_sl, hrn, hall, ba, t1, t2, List.drop_zero, hsz, ba_data, ba_size, ba_toList, ba_extract, ba_append, List.toList_toArray, hcat]; (first | done | rfl))
    | ((first | apply g_T | apply g_F); · intro hb; simp only [go_sem, Nat.reduceEqDiff, Nat.reduceAdd, Nat.reduceLeDiff, f0, f1, f2, f9, f10, slcLP_sl, hrn, hall, ba, t1, t2, List.drop_zero, hsz, ba_data, ba_size, ba_toList, ba_extract, ba_append, List.toList_toArray, hcat, hb]; (first | done | rfl))
    | ((first | apply g_gT | apply g_gF); · intro hb hc; simp only [go_sem, Nat.reduceEqDiff, Nat.reduceAdd, Nat.reduceLeDiff, f0, f1, f2, f9, f10, slcLP_sl, hrn, hall, ba, t1, t2, List.drop_zero, hsz, ba_data, ba_size, ba_toList, ba_extract, ba_append, List.toList_toArray, hcat, hb, hc]; (first | done | rfl))
    | refine g_skT ?_ | refine g_skF ?_
    | ((first | apply g_goT | apply g_goF); · simp only [go_sem, Nat.reduceEqDiff, Nat.reduceAdd, Nat.reduceLeDiff, f0, f1, f2, f9, f10, slcLP_sl, hrn, hall, ba, t1, t2, List.drop_zero, hsz, ba_data, ba_size, ba_toList, ba_extract, ba_append, List.toList_toArray, hcat]; (first | done | rfl))
    | (refine w_condT ?_ ?_; · simp only [go_sem, Nat.reduceEqDiff, Nat.reduceAdd, Nat.reduceLeDiff, f0, f1, f2, f9, f10, slcLP_sl, hrn, hall, ba, t1, t2, List.drop_zero, hsz, ba_data, ba_size, ba_toList, ba_extract, ba_append, List.toList_toArray, hcat]; (first | done | rfl))
    | (refine w_condF ?_ ?_; · simp only [go_sem, Nat.reduceEqDiff, Nat.reduceAdd, Nat.reduceLeDiff, f0, f1, f2, f9, f10, slcLP_sl, hrn, hall, ba, t1, t2, List.drop_zero, hsz, ba_data, ba_size, ba_toList, ba_extract, ba_append, List.toList_toArray, hcat]; (first | done | rfl))
    | refine w_skip ?_ | refine w_exit ?_ | refine w_ret ?_
    | fail
    )
    refine s_gatL (os := []) (w := false) (xs := []) (ys := txts (rows.take a)) (by simp only [go_sem, Nat.reduceEqDiff, Nat.reduceAdd, Nat.reduceLeDiff]; exact .em) (by simp only [go_sem, Nat.reduceEqDiff, Nat.reduceAdd, Nat.reduceLeDiff, srcOf, elemsOf]) (okl _) (by rw [txts_len]; simp; omega) ?_
    intro p1 τ1 g1 _
    (repeat' first
    | refine w_seq ?_ | refine w_rg ?_ | refine wo_nil ?_ | refine g_skU ?_
    | ((first | apply s_plain | apply s_void | apply s_guard); · simp only [go_sem, Nat.reduceEqDiff, Nat.reduceAdd, Nat.reduceLeDiff, splice, fillP, fillE, List.modify_zero_cons, List.replicate_succ, List.replicate_zero, List.set_cons_zero, List.drop_zero]; (first | done | rfl))
    | ((first | apply g_T | apply g_F); · intro hb; simp only [go_sem, Nat.reduceEqDiff, Nat.reduceAdd, Nat.reduceLeDiff, splice, fillP, fillE, List.modify_zero_cons, List.replicate_succ, List.replicate_zero, List.set_cons_zero, List.drop_zero, hb]; (first | done | rfl))
    | ((first | apply g_gT | apply g_gF); · intro hb hc; simp only [go_sem, Nat.reduceEqDiff, Nat.reduceAdd, Nat.reduceLeDiff, splice, fillP, fillE, List.modify_zero_cons, List.replicate_succ, List.replicate_zero, List.set_cons_zero, List.drop_zero, hb, hc]; (first | done | rfl))
    | refine g_skT ?_ | refine g_skF ?_
    | ((first | apply g_goT | apply g_goF); · simp only [go_sem, Nat.reduceEqDiff, Nat.reduceAdd, Nat.reduceLeDiff, splice, fillP, fillE, List.modify_zero_cons, List.replicate_succ, List.replicate_zero, List.set_cons_zero, List.drop_zero]; (first | done | rfl))
    | fail
    )
    refine s_gatL (os := [57]) (w := false) (xs := txts (rows.take a)) (ys := [txt (c1 :: c2 :: note)]) (by simp only [go_sem, Nat.reduceEqDiff, Nat.reduceAdd, Nat.reduceLeDiff]; exact g1.new _) (by simp only [go_sem, Nat.reduceEqDiff, Nat.reduceAdd, Nat.reduceLeDiff, srcOf, elemsOf]) rfl (by rw [txts_len]; simp; omega) ?_
    intro p2 τ2 g2 _
    refine s_gatL (os := [62]) (w := false) (xs := txts (rows.take a) ++ [txt (c1 :: c2 :: note)]) (ys := txts (rows.drop a)) (by simp only [go_sem, Nat.reduceEqDiff, Nat.reduceAdd, Nat.reduceLeDiff]; exact g2) (by simp only [go_sem, Nat.reduceEqDiff, Nat.reduceAdd, Nat.reduceLeDiff, srcOf, elemsOf]) (okl _) (by simp [txts_len]; omega) ?_
    intro p3 τ3 g3 _
    have e3 : txts (rows.take a) ++ [txt (c1 :: c2 :: note)] ++ txts (rows.drop a) = txts (rows.take a ++ (c1 :: c2 :: note) :: rows.drop a) := by simp [txts]
    rw [e3] at g3
    have hfz := g3.fz (txts_fz τ3 10 _)
    have hne : rows.take a ++ (c1 :: c2 :: note) :: rows.drop a ≠ [] := by simp
    have hju := join_unl hne
    have hlu : (unl (rows.take a ++ (c1 :: c2 :: note) :: rows.drop a)).length ≤ 6043 := by
      have e0 : unl rows = unl (rows.take a) ++ unl (rows.drop a) := by unfold unl; rw [← List.flatMap_append, List.take_append_drop]
      have := congrArg List.length e0
      rw [hus, List.length_append] at this
      simp only [unl, List.flatMap_append, List.flatMap_cons, List.length_append, List.length_cons, List.length_nil] at this ⊢
      omega
    have hins := parse_ins (l := rows.take a) (m := rows.drop a) (x := c1 :: c2 :: note) hbl (by rw [List.take_append_drop]; exact hno) hnx (by omega)
    rw [List.take_append_drop, hus, List.length_take, Nat.min_eq_left hal2] at hins
    generalize hmore : rows.take a ++ (c1 :: c2 :: note) :: rows.drop a = more at *
    have hjl : (Lib.join more [10]).length ≤ 6043 := by
      have := congrArg List.length hju
      rw [List.length_append] at this; omega
    have hml : more.length ≤ 8000 := by rw [← hmore]; simp; omega
    have h23 := a23 J (l := more) (t := [10]) (by omega) (by omega)
    have h16 := H.h16 (s := s) (by omega)
    have h16m := H.h16 (s := unl more) (by omega)
    have h12 := a12 H.dg (a := (parseD s).1) (b := (parseD s).1) (parseD_sms s)
    rw [hins] at h16m
    have hat2 := parse_at s
    have w5 : IntKind.i64.wrap ((parseD s).2.2 + 1) = (parseD s).2.2 + 1 := by rw [IntKind.wrap_i64]; omega
    have hsz2 : (Lib.join more [10]).length + 1 ≤ 9223372036854775807 := by omega
    have one : ((1 : Nat) : Int) = 1 := rfl
    (repeat' first
    | refine w_seq ?_ | refine w_rg ?_ | refine wo_nil ?_ | refine g_skU ?_
    | ((first | apply s_plain | apply s_void | apply s_guard); · simp only [go_sem, Nat.reduceEqDiff, Nat.reduceAdd, Nat.reduceLeDiff, f0, h16, hfz, h23, hsz2, ba_data, ba_size, ba_toList, ba_extract, ba_append, List.toList_toArray, hju, h16m]; (first | done | rfl))
    | ((first | apply g_T | apply g_F); · intro hb; simp only [go_sem, Nat.reduceEqDiff, Nat.reduceAdd, Nat.reduceLeDiff, f0, h16, hfz, h23, hsz2, ba_data, ba_size, ba_toList, ba_extract, ba_append, List.toList_toArray, hju, h16m, hb]; (first | done | rfl))
    | ((first | apply g_gT | apply g_gF); · intro hb hc; simp only [go_sem, Nat.reduceEqDiff, Nat.reduceAdd, Nat.reduceLeDiff, f0, h16, hfz, h23, hsz2, ba_data, ba_size, ba_toList, ba_extract, ba_append, List.toList_toArray, hju, h16m, hb, hc]; (first | done | rfl))
    | refine g_skT ?_ | refine g_skF ?_
    | ((first | apply g_goT | apply g_goF); · simp only [go_sem, Nat.reduceEqDiff, Nat.reduceAdd, Nat.reduceLeDiff, f0, h16, hfz, h23, hsz2, ba_data, ba_size, ba_toList, ba_extract, ba_append, List.toList_toArray, hju, h16m]; (first | done | rfl))
    | fail
    )
    simp only [insI] at *
    by_cases hgt : (parseD s).2.2 > (a : Int)
    · have hd : decide ((parseD s).2.2 > (a : Int)) = true := by simpa using hgt
      (repeat' first
    | refine w_seq ?_ | refine w_rg ?_ | refine wo_nil ?_ | refine g_skU ?_
    | ((first | apply s_plain | apply s_void | apply s_guard); · simp only [go_sem, Nat.reduceEqDiff, Nat.reduceAdd, Nat.reduceLeDiff, f0, f2, h16, hfz, h23, hsz2, ba_data, ba_size, ba_toList, ba_extract, ba_append, List.toList_toArray, hju, h16m, hd, hgt, w5, hal, h12, beq_self_eq_true]; (first | done | rfl))
    | ((first | apply g_T | apply g_F); · intro hb; simp only [go_sem, Nat.reduceEqDiff, Nat.reduceAdd, Nat.reduceLeDiff, f0, f2, h16, hfz, h23, hsz2, ba_data, ba_size, ba_toList, ba_extract, ba_append, List.toList_toArray, hju, h16m, hd, hgt, w5, hal, h12, beq_self_eq_true, hb]; (first | done | rfl))
    | ((first | apply g_gT | apply g_gF); · intro hb hc; simp only [go_sem, Nat.reduceEqDiff, Nat.reduceAdd, Nat.reduceLeDiff, f0, f2, h16, hfz, h23, hsz2, ba_data, ba_size, ba_toList, ba_extract, ba_append, List.toList_toArray, hju, h16m, hd, hgt, w5, hal, h12, beq_self_eq_true, hb, hc]; (first | done | rfl))
    | refine g_skT ?_ | refine g_skF ?_
    | ((first | apply g_goT | apply g_goF); · simp only [go_sem, Nat.reduceEqDiff, Nat.reduceAdd, Nat.reduceLeDiff, f0, f2, h16, hfz, h23, hsz2, ba_data, ba_size, ba_toList, ba_extract, ba_append, List.toList_toArray, hju, h16m, hd, hgt, w5, hal, h12, beq_self_eq_true]; (first | done | rfl))
    | (refine w_condT ?_ ?_; · simp only [go_sem, Nat.reduceEqDiff, Nat.reduceAdd, Nat.reduceLeDiff, f0, f2, h16, hfz, h23, hsz2, ba_data, ba_size, ba_toList, ba_extract, ba_append, List.toList_toArray, hju, h16m, hd, hgt, w5, hal, h12, beq_self_eq_true]; (first | done | rfl))
    | (refine w_condF ?_ ?_; · simp only [go_sem, Nat.reduceEqDiff, Nat.reduceAdd, Nat.reduceLeDiff, f0, f2, h16, hfz, h23, hsz2, ba_data, ba_size, ba_toList, ba_extract, ba_append, List.toList_toArray, hju, h16m, hd, hgt, w5, hal, h12, beq_self_eq_true]; (first | done | rfl))
    | refine w_skip ?_ | refine w_exit ?_ | refine w_ret ?_
    | fail
    )
      exact ⟨by first | exact .inr rfl | exact .inr trivial | exact .inl rfl, by simp only [go_sem, Nat.reduceEqDiff, Nat.reduceAdd, Nat.reduceLeDiff, retOf, resOf]; first | done | rfl⟩
    · have hd : decide ((parseD s).2.2 > (a : Int)) = false := by simpa using hgt
      (repeat' first
    | refine w_seq ?_ | refine w_rg ?_ | refine wo_nil ?_ | refine g_skU ?_
    | ((first | apply s_plain | apply s_void | apply s_guard); · simp only [go_sem, Nat.reduceEqDiff, Nat.reduceAdd, Nat.reduceLeDiff, f0, f2, h16, hfz, h23, hsz2, ba_data, ba_size, ba_toList, ba_extract, ba_append, List.toList_toArray, hju, h16m, hd, hgt, if_false, hal, h12, beq_self_eq_true]; (first | done | rfl))
    | ((first | apply g_T | apply g_F); · intro hb; simp only [go_sem, Nat.reduceEqDiff, Nat.reduceAdd, Nat.reduceLeDiff, f0, f2, h16, hfz, h23, hsz2, ba_data, ba_size, ba_toList, ba_extract, ba_append, List.toList_toArray, hju, h16m, hd, hgt, if_false, hal, h12, beq_self_eq_true, hb]; (first | done | rfl))
    | ((first | apply g_gT | apply g_gF); · intro hb hc; simp only [go_sem, Nat.reduceEqDiff, Nat.reduceAdd, Nat.reduceLeDiff, f0, f2, h16, hfz, h23, hsz2, ba_data, ba_size, ba_toList, ba_extract, ba_append, List.toList_toArray, hju, h16m, hd, hgt, if_false, hal, h12, beq_self_eq_true, hb, hc]; (first | done | rfl))
    | refine g_skT ?_ | refine g_skF ?_
    | ((first | apply g_goT | apply g_goF); · simp only [go_sem, Nat.reduceEqDiff, Nat.reduceAdd, Nat.reduceLeDiff, f0, f2, h16, hfz, h23, hsz2, ba_data, ba_size, ba_toList, ba_extract, ba_append, List.toList_toArray, hju, h16m, hd, hgt, if_false, hal, h12, beq_self_eq_true]; (first | done | rfl))
    | (refine w_condT ?_ ?_; · simp only [go_sem, Nat.reduceEqDiff, Nat.reduceAdd, Nat.reduceLeDiff, f0, f2, h16, hfz, h23, hsz2, ba_data, ba_size, ba_toList, ba_extract, ba_append, List.toList_toArray, hju, h16m, hd, hgt, if_false, hal, h12, beq_self_eq_true]; (first | done | rfl))
    | (refine w_condF ?_ ?_; · simp only [go_sem, Nat.reduceEqDiff, Nat.reduceAdd, Nat.reduceLeDiff, f0, f2, h16, hfz, h23, hsz2, ba_data, ba_size, ba_toList, ba_extract, ba_append, List.toList_toArray, hju, h16m, hd, hgt, if_false, hal, h12, beq_self_eq_true]; (first | done | rfl))
    | refine w_skip ?_ | refine w_exit ?_ | refine w_ret ?_
    | fail
    )
      exact ⟨by first | exact .inr rfl | exact .inr trivial | exact .inl rfl, by simp only [go_sem, Nat.reduceEqDiff, Nat.reduceAdd, Nat.reduceLeDiff, retOf, resOf]; first | done | rfl⟩
  · have hb : (note.contains 10 || !([10] : List UInt8).isSuffixOf s) = true := by
      by_cases h1 : (10 : UInt8) ∈ note
      · simp [h1]
      · have : ([10] : List UInt8).isSuffixOf s = false := by
          rw [Bool.eq_false_iff]; exact fun h2 => hc ⟨h1, h2⟩
        rw [this]; simp
    refine w_condT (by simp only [go_sem, Nat.reduceEqDiff, Nat.reduceAdd, Nat.reduceLeDiff]; exact congrArg (fun b => PV.sc (.bool b)) hb) ?_
    (repeat' first
    | refine w_seq ?_ | refine w_rg ?_ | refine wo_nil ?_ | refine g_skU ?_
    | ((first | apply s_plain | apply s_void | apply s_guard); · simp only [go_sem, Nat.reduceEqDiff, Nat.reduceAdd, Nat.reduceLeDiff, hal]; (first | done | rfl))
    | ((first | apply g_T | apply g_F); · intro hb; simp only [go_sem, Nat.reduceEqDiff, Nat.reduceAdd, Nat.reduceLeDiff, hal, hb]; (first | done | rfl))
    | ((first | apply g_gT | apply g_gF); · intro hb hc; simp only [go_sem, Nat.reduceEqDiff, Nat.reduceAdd, Nat.reduceLeDiff, hal, hb, hc]; (first | done | rfl))
    | refine g_skT ?_ | refine g_skF ?_
    | ((first | apply g_goT | apply g_goF); · simp only [go_sem, Nat.reduceEqDiff, Nat.reduceAdd, Nat.reduceLeDiff, hal]; (first | done | rfl))
    | (refine w_condT ?_ ?_; · simp only [go_sem, Nat.reduceEqDiff, Nat.reduceAdd, Nat.reduceLeDiff, hal]; (first | done | rfl))
    | (refine w_condF ?_ ?_; · simp only [go_sem, Nat.reduceEqDiff, Nat.reduceAdd, Nat.reduceLeDiff, hal]; (first | done | rfl))
    | refine w_skip ?_ | refine w_exit ?_ | refine w_ret ?_
    | fail
    )
    exact ⟨by first | exact .inr rfl | exact .inr trivial | exact .inl rfl, by simp only [go_sem, Nat.reduceEqDiff, Nat.reduceAdd, Nat.reduceLeDiff, retOf, resOf]; first | done | rfl⟩
end
end Go.Proofs.YtdlfomiclkpibaaDoorPv
namespace Go.Proofs.YtdlfomiclkpibaaDoorPv
open Go
section
variable {P : Program}
def fieldsOf (P : Program) (t : TypeId) : List (Nat × TypeId) := match P.underlying t with
  | some (.struct fs) => fs.toList.map fun f => (f.offset, f.type)
  | _ => []
theorem Is.fields {t : TypeId} {ps : List PV} (h : Is P t ps) (ha : isAgg P t = true) : ps.length = P.cellsOf t ∧ ∀ q ∈ fieldsOf P t, Is P q.2 ((ps.drop q.1).take (P.cellsOf q.2)) := by
  unfold isAgg at ha
  split at ha
  · rename_i fs hu
    obtain ⟨h1, h2⟩ := h.st' hu
    refine ⟨h1, fun q hq => ?_⟩
    simp only [fieldsOf, hu, List.mem_map] at hq
    obtain ⟨f, hf, rfl⟩ := hq
    obtain ⟨i, hi⟩ := List.getElem?_of_mem hf
    exact h2 i f (by simpa using hi)
  · cases ha
theorem str_of {t : TypeId} {p : PV} (h : Is P t [p]) (hk : (match P.underlying t with | some .string => true | _ => false) = true) : ∃ s : ByteArray, p = .sc (.string s) ∧ s.size ≤ reachBytes := by
  split at hk
  · rename_i hu
    obtain ⟨s, hs, h2⟩ := h.str' hu
    simp only [List.cons.injEq, and_true] at hs
    exact ⟨s, hs, h2⟩
  · cases hk
/-- The wrap of a row that lists variables, the world's shape kept. -/
theorem returns_and_shaped {H : Type} {enc : TypeId × Value → H} {a : Assume} {C : Checked} {os : Os} {f : FuncId} {fn : Func} {s : ChangeSpec} {conds : List PathCond} {apart fresh handsOn again : Bool} {Z : World → Array Value → Prop}
    (_hZ : ∀ (w w' : World) (args : Array Value), w.heap = w'.heap → Z w args → Z w' args)
    (own : ownKnob C.prog.godebug = none) (started : os.Started) (noInit : C.prog.inits.idxOf? f = none) (hfn : C.prog.funcs[f]? = some fn)
    (witness : ∃ (w : World) (tape : Tape) (i : Input), w.os = os ∧ (w.forCall tape i).Shaped C.prog ∧ i.vars = [] ∧ Input.okWide C.prog (w.forCall tape i) .any w.heap.size f i ∧
      ((s.pre enc C.prog fn conds apart (w.forCall tape i).memory i.args ∧ Z (w.forCall tape i).memory i.args) ∧ sizedMet enc C.prog fn (OpenSpec.ofChange s) apart (w.forCall tape i).memory i.args) ∧ a.holds C.prog (lone (Frame.enter C.prog f i.args .normal) [] (w.forCall tape i)))
    (contract : ∀ (W : World) (base : Nat) (args : Array Value) (ds gs : List (DataW H)) (before : List MemPlace),
      (∀ (j : Nat) t v, fn.params[j]? = some t → args[j]? = some v → Value.okWide C.prog W .any base t v) →
      DataW.Whole enc C.prog fn.params.toList s.vars apart W args.toList ds gs before →
      conds.all (PathCond.test C.prog ⟨fn.params.toList, ds, s.plain.varTypes C.prog, gs⟩) = true →
      (DataW.weightsEach C.prog (fn.params.toList ++ s.plain.varTypes C.prog) (ds ++ gs)).all (· ≤ reachBytes) = true → W.ShapedOpen C.prog →
      Calls C.prog f args W fun e W' => ∃ v, e = .returned v ∧ s.post enc C.prog fn apart fresh handsOn again W args v W') :
    ReturnsInHanded a C os f .any (fun w args => (s.pre enc C.prog fn conds apart w args ∧ Z w args) ∧ sizedMet enc C.prog fn (OpenSpec.ofChange s) apart w args) (s.post enc C.prog fn apart fresh handsOn again) := by
  refine returnsInHanded_of_calls own started noInit witness ?_
  intro w tape i _ hsh _ hok hpre _
  obtain ⟨_, _, _, fn', hfn', _, _, _, _, hval⟩ := hok
  have e : fn' = fn := Option.some.inj (hfn'.symm.trans hfn)
  subst e
  obtain ⟨⟨⟨ds, gs, before, hw, hc⟩, _⟩, hz⟩ := hpre
  have hw' := DataW.Whole.of_heap (w' := w.forCall tape i) (by rfl) hw
  refine (contract (w.forCall tape i) w.heap.size i.args ds gs before hval hw' hc (hz.weights hw) hsh).mono fun e W' ⟨v, he, hp⟩ => ?_
  subst he
  exact ChangeSpec.post_blind hp
end
end Go.Proofs.YtdlfomiclkpibaaDoorPv
