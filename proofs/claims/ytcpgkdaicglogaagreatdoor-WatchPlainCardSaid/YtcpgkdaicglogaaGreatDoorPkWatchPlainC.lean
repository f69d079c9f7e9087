/-
Own texts of the proof, merged: part 3.
-/
import Derived.Test.YtcpgkdaicglogaaGreatDoorPkWatchPlainB
import Derived.Test.YtcpgkdaicglogaaGreatDoorPvPe
namespace Go.Proofs.YtcpgkdaicglogaaGreatDoorPv
open Go
set_option linter.unusedSimpArgs false
set_option linter.unusedVariables false
set_option maxHeartbeats 4000000
set_option maxRecDepth 8000
section
attribute [local go_sem ↓] e_mv e_pick e_bin e_eqs e_beq e_un e_cvi e_str e_s2b e_b2s e_box e_build e_bsl e_ld e_st e_nck e_mkf e_slcS e_slcL e_fa e_fld e_ia e_iaa e_ix e_ixa e_ext e_lenS e_lenL e_mnmx e_app e_appb e_bbx e_msl e_clr e_call e_callv e_icall e_slcA e_mkm e_mput e_mget e_mlen e_mdel pa_t pa_c pa_f slcSP_str hiOf_some hiOf_none loOf_some loOf_none set_eq set_ne
attribute [local go_sem] pv pv1 simple frOf_0 frOf_1 frOf_2 frOf_3 frOf_4 frOf_5 ne_eq not_false_eq_true if_true Bool.false_eq_true if_false pbin punary Option.map_some Option.bind_some pick_and pick_or opt_true Bool.true_and Bool.and_self Bool.and_true Bool.true_or Bool.false_or Bool.not_true Bool.not_false callE pcall_eq List.map_cons List.map_nil List.append_nil List.nil_append List.cons_append mapM_cons' mapM_nil' dep_eq fz_sc fz_sl fz_em fz_fn fz_fp fz_agg fz_tu fz_bx fz_ob Nat.lt_irrefl Nat.zero_lt_one Nat.lt_add_one flat clL cl Bool.or_true okc_sc okc_em okc_sl okc_ob okc_bx okc_fp okc_fn okc_agg okc_ifc cells_agg cells_sc cells_sl cells_em cells_ob cells_fn cells_bx cells_fp List.length_cons List.length_nil Nat.zero_add and_self true_and and_true new_m new_c put_m put_c nil_m nil_c nil_mm new_mm put_mm newM_m newM_c newM_mm putM_m putM_c putM_mm mkeyV_1 mkeyV_2 mapAt_eq deref List.getElem?_cons_zero List.getElem?_cons_succ List.drop_zero List.drop_succ_cons List.take_succ_cons List.take_zero Nat.le_refl false_and and_false decide_true decide_false lenP_em lenP_nil lenP_sl lenP_ob Int.ofNat_zero splice fillP fillE List.modify_zero_cons List.replicate_succ List.replicate_zero List.set_cons_zero List.drop_zero ba_data ba_size ba_toList ba_extract ba_append List.toList_toArray
section
variable {env : Nat → Option Def} {fr : Fr} {σ σ' σ'' : St} {K : Fr → St → Prop} {Q : X → Fr → St → Prop} {p : PV} {bs : List UInt8}
theorem x_hit {A B : Prop} {n : Nat} (h : A) : if n = n then A else B := by rw [if_pos rfl]; exact h
theorem x_miss {A B : Prop} {m n : Nat} (hn : ¬ m = n) (h : B) : if m = n then A else B := by rw [if_neg hn]; exact h
/-! code of which it is known how it ends -/
def WpX (env : Nat → Option Def) (pc : PC) (x : X) (J : Fr → St → Prop) (fr : Fr) (σ : St) : Prop := Wp env pc (fun y fr σ => y = x ∧ J fr σ) fr σ
section
variable {a b : PC} {x : X} {J P : Fr → St → Prop} {id k : Nat}
theorem x_to (h : WpX env a x J fr σ) (hq : ∀ fr σ, J fr σ → Q x fr σ) : Wp env a Q fr σ := Wp.mono h fun y fr σ ⟨hy, hj⟩ => by subst hy; exact hq fr σ hj
theorem x_seqN (h1 : WpX env a .normal P fr σ) (h2 : ∀ fr σ, P fr σ → WpX env b x J fr σ) : WpX env (.seq a b) x J fr σ := w_seqC P h1 h2
theorem x_seqE (hx : x ≠ .normal) (h1 : WpX env a x J fr σ) : WpX env (.seq a b) x J fr σ := w_seq (Wp.mono h1 fun y fr σ ⟨hy, hj⟩ => by
  subst hy
  cases y with
  | normal => exact absurd rfl hx
  | exit i => exact ⟨rfl, hj⟩
  | ret => exact ⟨rfl, hj⟩)
theorem x_blkN (h : WpX env b .normal J fr σ) : WpX env (.block id b) .normal J fr σ := w_block (Wp.mono h fun y fr σ ⟨hy, hj⟩ => by subst hy; exact ⟨rfl, hj⟩)
theorem x_blkR (h : WpX env b .ret J fr σ) : WpX env (.block id b) .ret J fr σ := w_block (Wp.mono h fun y fr σ ⟨hy, hj⟩ => by subst hy; exact ⟨rfl, hj⟩)
theorem x_blkH (h : WpX env b (.exit id) J fr σ) : WpX env (.block id b) .normal J fr σ := w_block (Wp.mono h fun y fr σ ⟨hy, hj⟩ => by
  subst hy
  show if id = id then _ else _
  rw [if_pos rfl]
  exact ⟨rfl, hj⟩)
theorem x_blkM (hk : k ≠ id) (h : WpX env b (.exit k) J fr σ) : WpX env (.block id b) (.exit k) J fr σ := w_block (Wp.mono h fun y fr σ ⟨hy, hj⟩ => by
  subst hy
  show if k = id then _ else _
  rw [if_neg hk]
  exact ⟨rfl, hj⟩)
end
def RowW (σ : St) (es : Nat) (p : PV) (xs : List PV) : Prop := (p = .em ∧ xs = []) ∨ ∃ o g, p = .ob o g es 0 xs.length ∧ σ.m o g = some ⟨es, xs, true, true⟩ ∧ o < 2000000
theorem RowW.fz {es : Nat} {xs : List PV} (h : RowW σ es p xs) {d : Nat} (hx : xs.mapM (fz σ d) = some xs) : fz σ (d + 1) p = some (.sl xs) := by
  rcases h with ⟨rfl, rfl⟩ | ⟨o, g, rfl, h2, _⟩
  · rfl
  · rw [fz_ob, h2]
    simp [hx]
theorem RowW.lenP {es : Nat} {xs : List PV} (h : RowW σ es p xs) : lenP p = some xs.length := by
  rcases h with ⟨rfl, rfl⟩ | ⟨o, g, rfl, _⟩ <;> rfl
theorem RowW.ok {es : Nat} {xs : List PV} (h : RowW σ es p xs) : cellsOf p = [p] ∧ okc p = true := by
  rcases h with ⟨rfl, rfl⟩ | ⟨o, g, rfl, _⟩ <;> exact ⟨rfl, rfl⟩
theorem RowW.new {es : Nat} {xs : List PV} (h : RowW σ es p xs) (hF : Fresh σ) (s : Nat) (y : Obj) : RowW (σ.new s y) es p xs := by
  rcases h with ⟨rfl, rfl⟩ | ⟨o, g, rfl, h2, h3⟩
  · exact .inl ⟨rfl, rfl⟩
  · refine .inr ⟨o, g, rfl, ?_, h3⟩
    simp only [new_m]
    rw [if_neg (fun h => by rw [h.1, h.2, hF.none] at h2; cases h2)]
    exact h2
theorem RowW.put {es : Nat} {xs : List PV} (h : RowW σ es p xs) {o g : Nat} (ho : 2000000 ≤ o) (y : Option Obj) : RowW (σ.put o g y) es p xs := by
  rcases h with ⟨rfl, rfl⟩ | ⟨o', g', rfl, h2, h3⟩
  · exact .inl ⟨rfl, rfl⟩
  · exact .inr ⟨o', g', rfl, by simp only [put_m]; rw [if_neg (fun h => by omega)]; exact h2, h3⟩
theorem RowW.keep {es : Nat} {xs : List PV} (h : RowW σ es p xs) (hm : ∀ o g, o < 2000000 → g < σ.c o → σ'.m o g = σ.m o g) (hF : Fresh σ) : RowW σ' es p xs := by
  rcases h with ⟨rfl, rfl⟩ | ⟨o', g', rfl, h2, h3⟩
  · exact .inl ⟨rfl, rfl⟩
  · exact .inr ⟨o', g', rfl, by rw [hm _ _ h3 (hF _ _ (by rw [h2]; rfl))]; exact h2, h3⟩
end

def d382 : Def := (.code 1 [.tmp 2] (.seq (.rg false [⟨.some 2, .none, .mv (.c (.bool false))⟩]) (.seq (.rg false [⟨.some 3, .none, .mv (.t 0)⟩, ⟨.some 4, .none, .bin .geq (.t 3) (.c (.int .i64 0))⟩, ⟨.some 5, .none, .mv (.t 4)⟩, ⟨.some 6, .some (5, true), .mv (.t 0)⟩, ⟨.some 7, .some (5, true), .bin .leq (.t 6) (.c (.int .i64 1099511627776))⟩, ⟨.some 8, .none, .pick (.t 5) (.t 7) (.c (.bool false))⟩, ⟨.some 2, .none, .mv (.t 8)⟩]) .ret)))
def d385 : Def := (.code 2 [.tmp 3] (.seq (.rg false [⟨.some 2, .none, .box (.t 0)⟩, ⟨.some 3, .none, .mv (.c (.bool false))⟩]) (.seq (.rg false [⟨.some 4, .none, .fa 0 (.t 2)⟩, ⟨.some 5, .none, .ld .none (.t 4)⟩, ⟨.some 6, .none, .fa 0 (.t 1)⟩, ⟨.some 7, .none, .ld .none (.t 6)⟩, ⟨.some 8, .none, .bin .eql (.t 5) (.t 7)⟩, ⟨.some 3, .none, .mv (.t 8)⟩]) .ret)))
def d392 : Def := (.code 2 [.tmp 4] (.seq (.rg false [⟨.some 4, .none, .mv (.c (.int .i64 0))⟩]) (.seq (.seq (.rg false [⟨.some 6, .none, .mv (.t 0)⟩, ⟨.some 7, .none, .lenL (.t 6)⟩, ⟨.some 8, .none, .mv (.c (.int .i64 0))⟩]) (.block 0 (.loop (.seq (.rg false [⟨.some 9, .none, .bin .lss (.t 8) (.t 7)⟩]) (.seq (.cond (.t 9) .skip (.exit 0)) (.seq (.block 1 (.seq (.rg false [⟨.some 10, .none, .mv (.t 8)⟩, ⟨.some 5, .none, .mv (.t 10)⟩]) (.seq (.rg false [⟨.some 11, .none, .mv (.t 1)⟩, ⟨.some 12, .none, .mv (.t 0)⟩, ⟨.some 13, .none, .mv (.t 5)⟩, ⟨.some 14, .none, .ia 8 (.t 12) (.t 13)⟩, ⟨.some 15, .none, .ld (.some 8) (.t 14)⟩, ⟨.some 16, .none, .callv (.t 11) .pure [.t 15]⟩]) (.cond (.t 16) (.seq (.rg false [⟨.some 17, .none, .mv (.t 5)⟩, ⟨.some 4, .none, .mv (.t 17)⟩]) .ret) .skip)))) (.rg false [⟨.some 18, .none, .bin .add (.t 8) (.c (.int .i64 1))⟩, ⟨.some 8, .none, .mv (.t 18)⟩]))))))) (.seq (.rg false [⟨.some 4, .none, .mv (.c (.int .i64 (-1)))⟩]) .ret))))
def d384 : Def := (.code 2 [.tmp 4] (.seq (.rg false [⟨.some 4, .none, .mv (.c (.bool false))⟩]) (.seq (.rg false [⟨.some 5, .none, .mv (.t 0)⟩, ⟨.some 6, .none, .mv (.t 1)⟩, ⟨.some 7, .none, .call 392 .pure [.t 5, .t 6]⟩, ⟨.some 8, .none, .bin .geq (.t 7) (.c (.int .i64 0))⟩, ⟨.some 4, .none, .mv (.t 8)⟩]) .ret)))
def d370 : Def := (.code 1 [.tmp 2] (.seq (.rg false [⟨.some 2, .none, .mv (.c (.bool false))⟩]) (.seq (.seq (.rg false [⟨.some 5, .none, .mv (.t 0)⟩, ⟨.some 6, .none, .lenL (.t 5)⟩, ⟨.some 7, .none, .mv (.c (.int .i64 0))⟩]) (.block 0 (.loop (.seq (.rg false [⟨.some 8, .none, .bin .lss (.t 7) (.t 6)⟩]) (.seq (.cond (.t 8) .skip (.exit 0)) (.seq (.block 1 (.seq (.rg false [⟨.some 9, .none, .mv (.t 7)⟩, ⟨.some 10, .none, .ia 8 (.t 5) (.t 7)⟩, ⟨.some 11, .none, .ld (.some 8) (.t 10)⟩, ⟨.some 4, .none, .box (.c (.agg #[.string ⟨#[]⟩, .string ⟨#[]⟩, .int .i64 0, .int .i64 0, .int .i64 0, .int .i64 0, .int .i64 0, .slice .none 0 0]))⟩, ⟨.some 3, .none, .mv (.t 9)⟩, ⟨.none, .none, .st 8 (.t 4) (.t 11)⟩]) (.seq (.rg false [⟨.some 12, .none, .ld (.some 8) (.t 4)⟩, ⟨.some 13, .none, .call 105 .pure [.t 12]⟩, ⟨.some 14, .none, .un .not (.t 13)⟩, ⟨.some 15, .none, .mv (.t 14)⟩, ⟨.some 16, .some (15, false), .mv (.t 0)⟩, ⟨.some 17, .some (15, false), .mv (.t 3)⟩, ⟨.some 18, .some (15, false), .slcL 8 (.t 16) .none (.some (.t 17))⟩, ⟨.some 19, .some (15, false), .mkf 385 [] [.t 4]⟩, ⟨.some 20, .some (15, false), .call 384 .pure [.t 18, .t 19]⟩, ⟨.some 21, .none, .pick (.t 15) (.c (.bool true)) (.t 20)⟩]) (.cond (.t 21) (.seq (.rg false [⟨.some 2, .none, .mv (.c (.bool false))⟩]) .ret) .skip)))) (.rg false [⟨.some 22, .none, .bin .add (.t 7) (.c (.int .i64 1))⟩, ⟨.some 7, .none, .mv (.t 22)⟩]))))))) (.seq (.rg false [⟨.some 23, .none, .mv (.t 0)⟩, ⟨.some 24, .none, .lenL (.t 23)⟩, ⟨.some 25, .none, .bin .leq (.t 24) (.c (.int .i64 16))⟩, ⟨.some 2, .none, .mv (.t 25)⟩]) .ret))))
def d393 : Def := (.code 2 [.tmp 3] (.seq (.rg false [⟨.some 2, .none, .box (.t 0)⟩, ⟨.some 3, .none, .mv (.c (.bool false))⟩]) (.seq (.rg false [⟨.some 4, .none, .fa 0 (.t 2)⟩, ⟨.some 5, .none, .ld .none (.t 4)⟩, ⟨.some 6, .none, .ld .none (.t 1)⟩, ⟨.some 7, .none, .bin .eql (.t 5) (.t 6)⟩, ⟨.some 3, .none, .mv (.t 7)⟩]) .ret)))
def d374 : Def := (.code 2 [.cell 4 (.some 8), .tmp 5] (.seq (.rg false [⟨.some 3, .none, .box (.t 1)⟩, ⟨.some 4, .none, .box (.c (.agg #[.string ⟨#[]⟩, .string ⟨#[]⟩, .int .i64 0, .int .i64 0, .int .i64 0, .int .i64 0, .int .i64 0, .slice .none 0 0]))⟩, ⟨.some 5, .none, .mv (.c (.bool false))⟩]) (.seq (.rg false [⟨.some 7, .none, .mv (.t 0)⟩, ⟨.some 8, .none, .mkf 393 [] [.t 3]⟩, ⟨.some 9, .none, .call 392 .pure [.t 7, .t 8]⟩, ⟨.some 6, .none, .mv (.t 9)⟩]) (.seq (.seq (.rg false [⟨.some 10, .none, .mv (.t 6)⟩, ⟨.some 11, .none, .bin .lss (.t 10) (.c (.int .i64 0))⟩]) (.cond (.t 11) (.seq (.rg false [⟨.some 12, .none, .build (.agg #[.string ⟨#[]⟩, .string ⟨#[]⟩, .int .i64 0, .int .i64 0, .int .i64 0, .int .i64 0, .int .i64 0, .slice .none 0 0]) []⟩, ⟨.none, .none, .st 8 (.t 4) (.t 12)⟩, ⟨.some 5, .none, .mv (.c (.bool false))⟩]) .ret) .skip)) (.seq (.rg false [⟨.some 13, .none, .mv (.t 0)⟩, ⟨.some 14, .none, .mv (.t 6)⟩, ⟨.some 15, .none, .ia 8 (.t 13) (.t 14)⟩, ⟨.some 16, .none, .ld (.some 8) (.t 15)⟩, ⟨.none, .none, .st 8 (.t 4) (.t 16)⟩, ⟨.some 5, .none, .mv (.c (.bool true))⟩]) .ret)))))
def d383 : Def := (.code 1 [.tmp 2] (.seq (.rg false [⟨.some 2, .none, .mv (.c (.int .i64 0))⟩]) (.seq (.rg false [⟨.some 3, .none, .mv (.c (.int .i64 0))⟩]) (.seq (.seq (.rg false [⟨.some 6, .none, .mv (.t 0)⟩, ⟨.some 7, .none, .lenL (.t 6)⟩, ⟨.some 8, .none, .mv (.c (.int .i64 0))⟩]) (.block 0 (.loop (.seq (.rg false [⟨.some 9, .none, .bin .lss (.t 8) (.t 7)⟩]) (.seq (.cond (.t 9) .skip (.exit 0)) (.seq (.block 1 (.seq (.rg false [⟨.some 10, .none, .ia 1 (.t 6) (.t 8)⟩, ⟨.some 11, .none, .ld .none (.t 10)⟩, ⟨.some 5, .none, .mv (.t 11)⟩]) (.seq (.rg false [⟨.some 12, .none, .mv (.t 5)⟩, ⟨.some 13, .none, .mv (.t 3)⟩, ⟨.some 14, .none, .bin .neq (.t 12) (.t 13)⟩]) (.cond (.t 14) (.seq (.rg false [⟨.some 15, .none, .mv (.t 5)⟩, ⟨.some 2, .none, .mv (.t 15)⟩]) .ret) .skip)))) (.rg false [⟨.some 16, .none, .bin .add (.t 8) (.c (.int .i64 1))⟩, ⟨.some 8, .none, .mv (.t 16)⟩]))))))) (.seq (.rg false [⟨.some 17, .none, .mv (.t 3)⟩, ⟨.some 2, .none, .mv (.t 17)⟩]) .ret)))))
def d369 : Def := (.code 2 [.tmp 4] (.seq (.rg false [⟨.some 2, .none, .box (.t 0)⟩, ⟨.some 3, .none, .box (.t 1)⟩, ⟨.some 4, .none, .mv (.c (.int .i64 0))⟩]) (.seq (.rg false [⟨.some 10, .none, .fa 1 (.t 2)⟩, ⟨.some 11, .none, .ld .none (.t 10)⟩, ⟨.some 12, .none, .call 202 .pure [.t 11]⟩, ⟨.some 9, .none, .mv (.t 12)⟩, ⟨.some 13, .none, .ext (.t 9) 0⟩, ⟨.some 14, .none, .ext (.t 9) 1⟩, ⟨.some 5, .none, .mv (.t 13)⟩, ⟨.some 6, .none, .mv (.t 14)⟩]) (.seq (.rg false [⟨.some 16, .none, .fa 1 (.t 3)⟩, ⟨.some 17, .none, .ld .none (.t 16)⟩, ⟨.some 18, .none, .call 202 .pure [.t 17]⟩, ⟨.some 15, .none, .mv (.t 18)⟩, ⟨.some 19, .none, .ext (.t 15) 0⟩, ⟨.some 20, .none, .ext (.t 15) 1⟩, ⟨.some 7, .none, .mv (.t 19)⟩, ⟨.some 8, .none, .mv (.t 20)⟩]) (.seq (.rg false [⟨.some 21, .none, .fa 0 (.t 2)⟩, ⟨.some 22, .none, .ld .none (.t 21)⟩, ⟨.some 23, .none, .fa 0 (.t 3)⟩, ⟨.some 24, .none, .ld .none (.t 23)⟩, ⟨.some 25, .none, .call 142 .pure [.t 22, .t 24]⟩, ⟨.some 26, .none, .mv (.t 5)⟩, ⟨.some 27, .none, .mv (.t 7)⟩, ⟨.some 28, .none, .call 142 .pure [.t 26, .t 27]⟩, ⟨.some 29, .none, .bsl 1 (.int .i64 0) 2 [(0, .t 25), (1, .t 28)]⟩, ⟨.some 30, .none, .call 383 .pure [.t 29]⟩, ⟨.some 4, .none, .mv (.t 30)⟩]) .ret)))))
def d368 : Def := (.code 2 [.tmp 4] (.seq (.rg false [⟨.some 3, .none, .box (.t 1)⟩, ⟨.some 4, .none, .mv (.c (.bool false))⟩]) (.seq (.rg false [⟨.some 8, .none, .mv (.t 0)⟩, ⟨.some 9, .none, .fa 0 (.t 3)⟩, ⟨.some 10, .none, .ld .none (.t 9)⟩, ⟨.some 11, .none, .call 374 .pure [.t 8, .t 10]⟩, ⟨.some 7, .none, .mv (.t 11)⟩, ⟨.some 12, .none, .ext (.t 7) 0⟩, ⟨.some 13, .none, .ext (.t 7) 1⟩, ⟨.some 5, .none, .box (.c (.agg #[.string ⟨#[]⟩, .string ⟨#[]⟩, .int .i64 0, .int .i64 0, .int .i64 0, .int .i64 0, .int .i64 0, .slice .none 0 0]))⟩, ⟨.none, .none, .st 8 (.t 5) (.t 12)⟩, ⟨.some 6, .none, .mv (.t 13)⟩]) (.seq (.seq (.rg true [⟨.some 14, .none, .mv (.t 6)⟩, ⟨.some 15, .none, .un .not (.t 14)⟩, ⟨.some 16, .none, .mv (.t 15)⟩, ⟨.some 17, .some (16, false), .fa 1 (.t 3)⟩, ⟨.some 18, .some (16, false), .ld .none (.t 17)⟩, ⟨.some 19, .some (16, false), .call 113 .strict [.t 18]⟩, ⟨.some 20, .some (16, false), .un .not (.t 19)⟩, ⟨.some 21, .none, .pick (.t 16) (.c (.bool true)) (.t 20)⟩, ⟨.some 22, .none, .mv (.t 21)⟩, ⟨.some 23, .some (22, false), .fa 1 (.t 3)⟩, ⟨.some 24, .some (22, false), .ld .none (.t 23)⟩, ⟨.some 25, .some (22, false), .call 114 .strict [.t 24, .c (.string ⟨#[97, 108, 101, 114, 116]⟩)]⟩, ⟨.some 26, .some (22, false), .fa 0 (.t 3)⟩, ⟨.some 27, .some (22, false), .ld .none (.t 26)⟩, ⟨.some 28, .some (22, false), .bin .neq (.t 25) (.t 27)⟩, ⟨.some 29, .none, .pick (.t 22) (.c (.bool true)) (.t 28)⟩, ⟨.some 30, .none, .mv (.t 29)⟩, ⟨.some 31, .some (30, false), .fa 2 (.t 3)⟩, ⟨.some 32, .some (30, false), .ld .none (.t 31)⟩, ⟨.some 33, .some (30, false), .bin .lss (.t 32) (.c (.int .i64 1))⟩, ⟨.some 34, .none, .pick (.t 30) (.c (.bool true)) (.t 33)⟩, ⟨.some 35, .none, .mv (.t 34)⟩, ⟨.some 36, .some (35, false), .fa 2 (.t 3)⟩, ⟨.some 37, .some (35, false), .ld .none (.t 36)⟩, ⟨.some 38, .some (35, false), .bin .gtr (.t 37) (.c (.int .i64 3))⟩, ⟨.some 39, .none, .pick (.t 35) (.c (.bool true)) (.t 38)⟩, ⟨.some 40, .none, .mv (.t 39)⟩, ⟨.some 41, .some (40, false), .fa 3 (.t 3)⟩, ⟨.some 42, .some (40, false), .ld .none (.t 41)⟩, ⟨.some 43, .some (40, false), .call 382 .strict [.t 42]⟩, ⟨.some 44, .some (40, false), .un .not (.t 43)⟩, ⟨.some 45, .none, .pick (.t 40) (.c (.bool true)) (.t 44)⟩, ⟨.some 46, .none, .mv (.t 45)⟩, ⟨.some 47, .some (46, false), .fa 4 (.t 3)⟩, ⟨.some 48, .some (46, false), .ld .none (.t 47)⟩, ⟨.some 49, .some (46, false), .bin .lss (.t 48) (.c (.int .i64 1))⟩, ⟨.some 50, .none, .pick (.t 46) (.c (.bool true)) (.t 49)⟩, ⟨.some 51, .none, .mv (.t 50)⟩, ⟨.some 52, .some (51, false), .fa 4 (.t 3)⟩, ⟨.some 53, .some (51, false), .ld .none (.t 52)⟩, ⟨.some 54, .some (51, false), .bin .gtr (.t 53) (.c (.int .i64 10))⟩, ⟨.some 55, .none, .pick (.t 51) (.c (.bool true)) (.t 54)⟩]) (.cond (.t 55) (.seq (.rg false [⟨.some 4, .none, .mv (.c (.bool false))⟩]) .ret) .skip)) (.seq (.seq (.rg false [⟨.some 56, .none, .fa 2 (.t 3)⟩, ⟨.some 57, .none, .ld .none (.t 56)⟩, ⟨.some 58, .none, .bin .eql (.t 57) (.c (.int .i64 3))⟩]) (.cond (.t 58) (.seq (.rg false [⟨.some 59, .none, .fa 5 (.t 3)⟩, ⟨.some 60, .none, .ld .none (.t 59)⟩, ⟨.some 61, .none, .fa 3 (.t 3)⟩, ⟨.some 62, .none, .ld .none (.t 61)⟩, ⟨.some 63, .none, .bin .geq (.t 60) (.t 62)⟩, ⟨.some 64, .none, .mv (.t 63)⟩, ⟨.some 65, .some (64, true), .fa 5 (.t 3)⟩, ⟨.some 66, .some (64, true), .ld .none (.t 65)⟩, ⟨.some 67, .some (64, true), .call 382 .pure [.t 66]⟩, ⟨.some 68, .none, .pick (.t 64) (.t 67) (.c (.bool false))⟩, ⟨.some 4, .none, .mv (.t 68)⟩]) .ret) .skip)) (.seq (.rg false [⟨.some 69, .none, .fa 5 (.t 3)⟩, ⟨.some 70, .none, .ld .none (.t 69)⟩, ⟨.some 71, .none, .bin .eql (.t 70) (.c (.int .i64 0))⟩, ⟨.some 4, .none, .mv (.t 71)⟩]) .ret))))))
def d387 : Def := (.code 2 [.tmp 3] (.seq (.rg false [⟨.some 2, .none, .box (.t 0)⟩, ⟨.some 3, .none, .mv (.c (.bool false))⟩]) (.seq (.rg false [⟨.some 4, .none, .fa 3 (.t 2)⟩, ⟨.some 5, .none, .ld .none (.t 4)⟩, ⟨.some 6, .none, .ld .none (.t 1)⟩, ⟨.some 7, .none, .bin .gtr (.t 5) (.t 6)⟩, ⟨.some 8, .none, .mv (.t 7)⟩, ⟨.some 9, .some (8, false), .fa 5 (.t 2)⟩, ⟨.some 10, .some (8, false), .ld .none (.t 9)⟩, ⟨.some 11, .some (8, false), .ld .none (.t 1)⟩, ⟨.some 12, .some (8, false), .bin .gtr (.t 10) (.t 11)⟩, ⟨.some 13, .none, .pick (.t 8) (.c (.bool true)) (.t 12)⟩, ⟨.some 3, .none, .mv (.t 13)⟩]) .ret)))
def d399 : Def := (.code 2 [.tmp 4] (.seq (.rg false [⟨.some 4, .none, .mv (.c (.int .i64 0))⟩]) (.seq (.seq (.rg false [⟨.some 6, .none, .mv (.t 0)⟩, ⟨.some 7, .none, .lenL (.t 6)⟩, ⟨.some 8, .none, .mv (.c (.int .i64 0))⟩]) (.block 0 (.loop (.seq (.rg false [⟨.some 9, .none, .bin .lss (.t 8) (.t 7)⟩]) (.seq (.cond (.t 9) .skip (.exit 0)) (.seq (.block 1 (.seq (.rg false [⟨.some 10, .none, .mv (.t 8)⟩, ⟨.some 5, .none, .mv (.t 10)⟩]) (.seq (.rg false [⟨.some 11, .none, .mv (.t 1)⟩, ⟨.some 12, .none, .mv (.t 0)⟩, ⟨.some 13, .none, .mv (.t 5)⟩, ⟨.some 14, .none, .ia 6 (.t 12) (.t 13)⟩, ⟨.some 15, .none, .ld (.some 6) (.t 14)⟩, ⟨.some 16, .none, .callv (.t 11) .pure [.t 15]⟩]) (.cond (.t 16) (.seq (.rg false [⟨.some 17, .none, .mv (.t 5)⟩, ⟨.some 4, .none, .mv (.t 17)⟩]) .ret) .skip)))) (.rg false [⟨.some 18, .none, .bin .add (.t 8) (.c (.int .i64 1))⟩, ⟨.some 8, .none, .mv (.t 18)⟩]))))))) (.seq (.rg false [⟨.some 4, .none, .mv (.c (.int .i64 (-1)))⟩]) .ret))))
def d386 : Def := (.code 2 [.tmp 4] (.seq (.rg false [⟨.some 4, .none, .mv (.c (.bool false))⟩]) (.seq (.rg false [⟨.some 5, .none, .mv (.t 0)⟩, ⟨.some 6, .none, .mv (.t 1)⟩, ⟨.some 7, .none, .call 399 .pure [.t 5, .t 6]⟩, ⟨.some 8, .none, .bin .geq (.t 7) (.c (.int .i64 0))⟩, ⟨.some 4, .none, .mv (.t 8)⟩]) .ret)))
def d371 : Def := (.code 3 [.tmp 6] (.seq (.rg false [⟨.some 5, .none, .box (.t 2)⟩, ⟨.some 6, .none, .mv (.c (.int .i64 0))⟩]) (.seq (.block 0 (.seq (.rg false [⟨.some 8, .none, .mv (.t 0)⟩, ⟨.some 9, .none, .mv (.t 1)⟩, ⟨.some 10, .none, .call 353 .pure [.t 8, .t 9]⟩, ⟨.some 11, .none, .un .not (.t 10)⟩, ⟨.some 12, .none, .mv (.t 11)⟩, ⟨.some 13, .some (12, false), .ld .none (.t 5)⟩, ⟨.some 14, .some (12, false), .call 382 .pure [.t 13]⟩, ⟨.some 15, .some (12, false), .un .not (.t 14)⟩, ⟨.some 16, .none, .pick (.t 12) (.c (.bool true)) (.t 15)⟩, ⟨.some 7, .none, .mv (.t 16)⟩]) (.cond (.t 7) (.seq (.rg false [⟨.some 6, .none, .mv (.c (.int .i64 1))⟩]) .ret) (.seq (.rg false [⟨.some 18, .none, .mv (.t 1)⟩, ⟨.some 19, .none, .mkf 387 [] [.t 5]⟩, ⟨.some 20, .none, .call 386 .pure [.t 18, .t 19]⟩, ⟨.some 17, .none, .mv (.t 20)⟩]) (.cond (.t 17) (.seq (.rg false [⟨.some 6, .none, .mv (.c (.int .i64 12))⟩]) .ret) .skip))))) (.seq (.rg false [⟨.some 6, .none, .mv (.c (.int .i64 0))⟩]) .ret))))
def d353 : Def := (.code 2 [.tmp 4] (.seq (.rg false [⟨.some 4, .none, .mv (.c (.bool false))⟩]) (.seq (.seq (.rg false [⟨.some 7, .none, .mv (.t 1)⟩, ⟨.some 8, .none, .lenL (.t 7)⟩, ⟨.some 9, .none, .mv (.c (.int .i64 0))⟩]) (.block 0 (.loop (.seq (.rg false [⟨.some 10, .none, .bin .lss (.t 9) (.t 8)⟩]) (.seq (.cond (.t 10) .skip (.exit 0)) (.seq (.block 1 (.seq (.rg false [⟨.some 11, .none, .mv (.t 9)⟩, ⟨.some 12, .none, .ia 6 (.t 7) (.t 9)⟩, ⟨.some 13, .none, .ld (.some 6) (.t 12)⟩, ⟨.some 6, .none, .box (.c (.agg #[.string ⟨#[]⟩, .slice .none 0 0, .int .i64 0, .int .i64 0, .int .i64 0, .int .i64 0]))⟩, ⟨.some 5, .none, .mv (.t 11)⟩, ⟨.none, .none, .st 6 (.t 6) (.t 13)⟩]) (.seq (.rg true [⟨.some 14, .none, .mv (.t 0)⟩, ⟨.some 15, .none, .ld (.some 6) (.t 6)⟩, ⟨.some 16, .none, .call 368 .strict [.t 14, .t 15]⟩, ⟨.some 17, .none, .un .not (.t 16)⟩, ⟨.some 18, .none, .mv (.t 17)⟩, ⟨.some 19, .some (18, false), .mv (.t 5)⟩, ⟨.some 20, .some (18, false), .bin .gtr (.t 19) (.c (.int .i64 0))⟩, ⟨.some 21, .some (18, false), .mv (.t 20)⟩, ⟨.some 22, .some (21, true), .mv (.t 1)⟩, ⟨.some 23, .some (21, true), .mv (.t 5)⟩, ⟨.some 24, .some (21, true), .bin .sub (.t 23) (.c (.int .i64 1))⟩, ⟨.some 25, .some (21, true), .ia 6 (.t 22) (.t 24)⟩, ⟨.some 26, .some (21, true), .ld (.some 6) (.t 25)⟩, ⟨.some 27, .some (21, true), .ld (.some 6) (.t 6)⟩, ⟨.some 28, .some (21, true), .call 369 .strict [.t 26, .t 27]⟩, ⟨.some 29, .some (21, true), .bin .geq (.t 28) (.c (.int .i64 0))⟩, ⟨.some 30, .some (18, false), .pick (.t 21) (.t 29) (.c (.bool false))⟩, ⟨.some 31, .none, .pick (.t 18) (.c (.bool true)) (.t 30)⟩]) (.cond (.t 31) (.seq (.rg false [⟨.some 4, .none, .mv (.c (.bool false))⟩]) .ret) .skip)))) (.rg false [⟨.some 32, .none, .bin .add (.t 9) (.c (.int .i64 1))⟩, ⟨.some 9, .none, .mv (.t 32)⟩]))))))) (.seq (.rg false [⟨.some 33, .none, .mv (.t 0)⟩, ⟨.some 34, .none, .call 370 .pure [.t 33]⟩, ⟨.some 35, .none, .mv (.t 34)⟩, ⟨.some 36, .some (35, true), .mv (.t 1)⟩, ⟨.some 37, .some (35, true), .lenL (.t 36)⟩, ⟨.some 38, .some (35, true), .bin .leq (.t 37) (.c (.int .i64 64))⟩, ⟨.some 39, .none, .pick (.t 35) (.t 38) (.c (.bool false))⟩, ⟨.some 4, .none, .mv (.t 39)⟩]) .ret))))
def lwa : List (Nat × Def) := [(382, d382), (385, d385), (392, d392), (384, d384), (370, d370), (393, d393), (374, d374), (383, d383), (369, d369), (368, d368), (353, d353)]
def lwb : List (Nat × Def) := [(387, d387), (399, d399), (386, d386), (371, d371)]
theorem d392_eq : d392 = dIF 8 := rfl
theorem d384_eq : d384 = dConF 392 := rfl
theorem d399_eq : d399 = dIF 6 := rfl
theorem d386_eq : d386 = dConF 399 := rfl
structure Al where
  rule : ByteArray
  labels : List Lab
  state : Int
  since : Int
  tries : Int
  ended : Int
  deriving DecidableEq
def al (a : Al) : PV := .agg [.sc (.string a.rule), .sl (labs a.labels), .sc (.int .i64 a.state), .sc (.int .i64 a.since), .sc (.int .i64 a.tries), .sc (.int .i64 a.ended)]
def als (l : List Al) : List PV := l.map al
theorem als_len (l : List Al) : (als l).length = l.length := by simp [als]
theorem als_at {l : List Al} {i : Nat} {a : Al} (h : l[i]? = some a) : (als l)[i]? = some (al a) := by simp [als, h]
def rules (l : List Rule) : List PV := l.map rule
theorem rules_len (l : List Rule) : (rules l).length = l.length := by simp [rules]
theorem rules_at {l : List Rule} {i : Nat} {a : Rule} (h : l[i]? = some a) : (rules l)[i]? = some (rule a) := by simp [rules, h]
structure Al.Fits (a : Al) : Prop where
  r : Small a.rule
  l : a.labels.length ≤ 9223372036854775807
  s : Smalls a.labels
instance : Inhabited Rule := ⟨⟨⟨#[]⟩, ⟨#[]⟩, 0, 0, 0, 0, 0, []⟩⟩
def zeroR : Rule := ⟨⟨#[]⟩, ⟨#[]⟩, 0, 0, 0, 0, 0, []⟩
structure Wb (env : Nat → Option Def) : Prop where
  la : Has la env
  lc : Has lc env
  lf : Has lf env
  lg : Has lg env
  lo : Has lo env
  lp : Has lp env
  lq : Has lq env
  lu : Has lu env
  bits : Bits env
section
variable {env : Nat → Option Def} {fr : Fr} {σ σ' σ'' : St} {K : Fr → St → Prop} {Q : X → Fr → St → Prop} {p : PV} {bs : List UInt8}
theorem a382 (W : Has lwa env) (n : Int) : AV env 382 [.sc (.int .i64 n)] = some (.sc (.bool (timeB n))) := by
  refine AV_wp (W (382, d382) (by simp [lwa])) rfl ?_
  (repeat' first
    | refine w_seq ?_ | refine w_rg ?_ | refine wo_nil ?_ | refine g_skU ?_ | refine g_skT ?_ | refine g_skF ?_
    | ((first | apply s_plain | apply s_void | apply s_guard | apply g_goT | apply g_goF); · simp only [go_sem, Nat.reduceEqDiff, Nat.reduceAdd, Nat.reduceLeDiff]; (first | done | rfl))
    | ((first | apply g_T | apply g_F | apply g_gT | apply g_gF); · intro q1_; (first | intro q2_ | have q2_ := q1_); simp only [go_sem, Nat.reduceEqDiff, Nat.reduceAdd, Nat.reduceLeDiff, q1_, q2_]; (first | done | rfl))
    | (apply w_condX; · simp only [go_sem, Nat.reduceEqDiff, Nat.reduceAdd, Nat.reduceLeDiff]; (first | done | rfl)); (first | refine wcd_T ?_ | refine wcd_F ?_)
    | refine w_skip ?_ | refine w_exit ?_ | refine w_ret ?_
    | fail
    )
  exact ⟨by first | exact .inr rfl | exact .inr trivial | exact .inl rfl, by simp only [go_sem, Nat.reduceEqDiff, Nat.reduceAdd, Nat.reduceLeDiff, retOf, resOf, timeB]; first | done | rfl⟩
def isR (l : List Rule) (n : ByteArray) (i : Nat) : Bool := (l.getD i zeroR).name.toList == n.toList
theorem a385 (W : Has lwa env) {x r : Rule} : AV env 385 [rule x, .fp [rule r] 0 0] = some (.sc (.bool (x.name.toList == r.name.toList))) := by
  refine AV_wp (W (385, d385) (by simp [lwa])) rfl ?_
  unfold rule
  (repeat' first
    | refine w_seq ?_ | refine w_rg ?_ | refine wo_nil ?_ | refine g_skU ?_ | refine g_skT ?_ | refine g_skF ?_
    | ((first | apply s_plain | apply s_void | apply s_guard | apply g_goT | apply g_goF); · simp only [go_sem, Nat.reduceEqDiff, Nat.reduceAdd, Nat.reduceLeDiff]; (first | done | rfl))
    | ((first | apply g_T | apply g_F | apply g_gT | apply g_gF); · intro q1_; (first | intro q2_ | have q2_ := q1_); simp only [go_sem, Nat.reduceEqDiff, Nat.reduceAdd, Nat.reduceLeDiff, q1_, q2_]; (first | done | rfl))
    | (apply w_condX; · simp only [go_sem, Nat.reduceEqDiff, Nat.reduceAdd, Nat.reduceLeDiff]; (first | done | rfl)); (first | refine wcd_T ?_ | refine wcd_F ?_)
    | refine w_skip ?_ | refine w_exit ?_ | refine w_ret ?_
    | fail
    )
  exact ⟨by first | exact .inr rfl | exact .inr trivial | exact .inl rfl, by simp only [go_sem, Nat.reduceEqDiff, Nat.reduceAdd, Nat.reduceLeDiff, retOf, resOf]; first | done | rfl⟩
theorem a393 (W : Has lwa env) {x : Rule} {n : ByteArray} : AV env 393 [rule x, .fp [.sc (.string n)] 0 0] = some (.sc (.bool (x.name.toList == n.toList))) := by
  refine AV_wp (W (393, d393) (by simp [lwa])) rfl ?_
  unfold rule
  (repeat' first
    | refine w_seq ?_ | refine w_rg ?_ | refine wo_nil ?_ | refine g_skU ?_ | refine g_skT ?_ | refine g_skF ?_
    | ((first | apply s_plain | apply s_void | apply s_guard | apply g_goT | apply g_goF); · simp only [go_sem, Nat.reduceEqDiff, Nat.reduceAdd, Nat.reduceLeDiff]; (first | done | rfl))
    | ((first | apply g_T | apply g_F | apply g_gT | apply g_gF); · intro q1_; (first | intro q2_ | have q2_ := q1_); simp only [go_sem, Nat.reduceEqDiff, Nat.reduceAdd, Nat.reduceLeDiff, q1_, q2_]; (first | done | rfl))
    | (apply w_condX; · simp only [go_sem, Nat.reduceEqDiff, Nat.reduceAdd, Nat.reduceLeDiff]; (first | done | rfl)); (first | refine wcd_T ?_ | refine wcd_F ?_)
    | refine w_skip ?_ | refine w_exit ?_ | refine w_ret ?_
    | fail
    )
  exact ⟨by first | exact .inr rfl | exact .inr trivial | exact .inl rfl, by simp only [go_sem, Nat.reduceEqDiff, Nat.reduceAdd, Nat.reduceLeDiff, retOf, resOf]; first | done | rfl⟩
theorem rules_agg (l : List Rule) : ∀ (i : Nat) e, (rules l)[i]? = some e → ∃ cs, e = .agg cs ∧ cs.length = 8 := by
  intro i e h
  simp only [rules, List.getElem?_map] at h
  obtain ⟨x, _, rfl⟩ := Option.map_eq_some_iff.1 h
  exact ⟨_, rfl, rfl⟩
theorem rules_get {l : List Rule} {i : Nat} {e : PV} (h : (rules l)[i]? = some e) : ∃ x, l[i]? = some x ∧ e = rule x ∧ l.getD i zeroR = x := by
  simp only [rules, List.getElem?_map] at h
  obtain ⟨x, hx, rfl⟩ := Option.map_eq_some_iff.1 h
  exact ⟨x, hx, rfl, by rw [List.getD_eq_getElem?_getD, hx, Option.getD_some]⟩
theorem a384 (W : Has lwa env) {l : List Rule} {r : Rule} (hn : l.length ≤ 9223372036854775807) : AV env 384 [.sl (rules l), .fn 385 [] [.fp [rule r] 0 0]] = some (.sc (.bool (l.any fun x => x.name.toList == r.name.toList))) := by
  have h1 := idxS (env := env) (k0 := 392) (es := 8) (by rw [← d392_eq]; exact W (392, d392) (by simp [lwa])) (xs := rules l) (k := 385) (a := []) (b := [.fp [rule r] 0 0]) (p := isR l r.name) (by rw [rules_len]; exact hn) (rules_agg l)
    (fun i e h σ => by obtain ⟨x, _, rfl, _⟩ := rules_get h; rfl)
    (fun i e h => by
      obtain ⟨x, _, rfl, hg⟩ := rules_get h
      have := a385 W (x := x) (r := r)
      unfold isR
      rw [hg]
      exact this)
  have h2 := conF_g (env := env) (k0 := 392) (k1 := 384) (by rw [← d384_eq]; exact W (384, d384) (by simp [lwa])) (fun _ => rfl) (fun _ => rfl) h1
  rw [h2, rules_len, found_any (l := l) (f := fun x => x.name.toList == r.name.toList)]
  intro i x hx
  unfold isR
  rw [List.getD_eq_getElem?_getD, hx, Option.getD_some]
def badR (l : List Rule) (i : Nat) : Bool := !rightR (l.getD i zeroR) || (l.take i).any fun x => x.name.toList == (l.getD i zeroR).name.toList
def ruledB (l : List Rule) : Bool := (List.range l.length).all (fun i => !badR l i) && decide (l.length ≤ 16)
theorem ruled_hit {l : List Rule} {i : Nat} (hi : i < l.length) (h : badR l i = true) : ruledB l = false := by
  unfold ruledB
  rw [show (List.range l.length).all (fun i => !badR l i) = false from all_hit hi (by rw [h]; rfl)]
  rfl
theorem ruled_all {l : List Rule} (h : ∀ j, j < l.length → badR l j = false) : ruledB l = decide ((l.length : Int) ≤ 16) := by
  unfold ruledB
  rw [show (List.range l.length).all (fun i => !badR l i) = true from all_all fun j hj => by rw [h j hj]; rfl, Bool.true_and, decide_eq_decide]
  omega
theorem a370 (B : Wb env) (W : Has lwa env) {l : List Rule} (hn : l.length ≤ 9223372036854775807) (hf : ∀ r ∈ l, r.Fits) : AV env 370 [.sl (rules l)] = some (.sc (.bool (ruledB l))) := by
  have hrl := rules_len l
  refine AV_wp (W (370, d370) (by simp [lwa])) rfl ?_
  (repeat' first
    | refine w_seq ?_ | refine w_rg ?_ | refine wo_nil ?_ | refine g_skU ?_ | refine g_skT ?_ | refine g_skF ?_
    | ((first | apply s_plain | apply s_void | apply s_guard | apply g_goT | apply g_goF); · simp only [go_sem, Nat.reduceEqDiff, Nat.reduceAdd, Nat.reduceLeDiff, hrl]; (first | done | rfl))
    | ((first | apply g_T | apply g_F | apply g_gT | apply g_gF); · intro q1_; (first | intro q2_ | have q2_ := q1_); simp only [go_sem, Nat.reduceEqDiff, Nat.reduceAdd, Nat.reduceLeDiff, hrl, q1_, q2_]; (first | done | rfl))
    | fail
    )
  refine w_block (w_rangeF l.length hn (fun i fr σ => ∀ j, j < i → badR l j = false) ⟨by decide, rfl, rfl⟩ (fun _ _ _ _ h => ⟨h, h, h⟩) (fun j hj => by omega) (by simp only [go_sem, Nat.reduceEqDiff, Nat.reduceAdd, Nat.reduceLeDiff]; first | done | rfl) (by simp only [go_sem, Nat.reduceEqDiff, Nat.reduceAdd, Nat.reduceLeDiff, hrl]; first | done | rfl) ?_ ?_)
  · rintro i fr1 σ1 hi h3 hti hfr
    have f0_0 := hfr 0 rfl; have f0_5 := hfr 5 rfl; have f0_6 := hfr 6 rfl; try (simp only [go_sem, Nat.reduceEqDiff, Nat.reduceAdd, Nat.reduceLeDiff] at f0_0); try (simp only [go_sem, Nat.reduceEqDiff, Nat.reduceAdd, Nat.reduceLeDiff] at f0_5); try (simp only [go_sem, Nat.reduceEqDiff, Nat.reduceAdd, Nat.reduceLeDiff] at f0_6)
    have hx := List.getElem?_eq_getElem hi
    have hy := rules_at hx
    have e1 : (0 : Int) ≤ (i : Int) ∧ (i : Int) < (l.length : Int) := by omega
    have hgd : l.getD i zeroR = l[i] := by rw [List.getD_eq_getElem?_getD, hx, Option.getD_some]
    have h105 := a105 B.la B.lc B.lf B.lg (hf _ (List.getElem_mem hi))
    have h384 := a384 W (l := l.take i) (r := l[i]) (by rw [List.length_take]; omega)
    have hall : (rules l).all (fun x => (cellsOf x).length == 8) = true := by
      rw [List.all_eq_true]
      intro y hy
      simp only [rules, List.mem_map] at hy
      obtain ⟨x, _, rfl⟩ := hy
      rfl
    have htk : (rules l).take i = rules (l.take i) := by simp [rules, List.map_take]
    have hb1 : bound l.length (.sc (.int .i64 (i : Int))) = some i := by
      simp only [bound]
      rw [if_pos (by omega)]
      rfl
    have hbad : badR l i = (!rightR l[i] || (l.take i).any fun x => x.name.toList == l[i].name.toList) := by unfold badR; rw [hgd]
    generalize l[i] = r at hy h105 h384 hbad
    unfold rule at hy h105 h384
    refine w_block ?_
    (repeat' first
    | refine w_seq ?_ | refine w_rg ?_ | refine wo_nil ?_ | refine g_skU ?_ | refine g_skT ?_ | refine g_skF ?_
    | ((first | apply s_plain | apply s_void | apply s_guard | apply g_goT | apply g_goF); · simp only [go_sem, Nat.reduceEqDiff, Nat.reduceAdd, Nat.reduceLeDiff, f0_0, f0_5, f0_6, hti, e1, hrl, Int.toNat_natCast, hy, h105, h384, hall, htk, hb1, slcLP, show (0 : Nat) < 8 by decide]; (first | done | rfl))
    | ((first | apply g_T | apply g_F | apply g_gT | apply g_gF); · intro q1_; (first | intro q2_ | have q2_ := q1_); simp only [go_sem, Nat.reduceEqDiff, Nat.reduceAdd, Nat.reduceLeDiff, f0_0, f0_5, f0_6, hti, e1, hrl, Int.toNat_natCast, hy, h105, h384, hall, htk, hb1, slcLP, show (0 : Nat) < 8 by decide, q1_, q2_]; (first | done | rfl))
    | fail
    )
    refine w_condB (by simp only [go_sem, Nat.reduceEqDiff, Nat.reduceAdd, Nat.reduceLeDiff]; first | done | rfl) (fun hc => ?_) (fun hc => ?_)
    · rw [hc] at hbad
      (repeat' first
    | refine w_seq ?_ | refine w_rg ?_ | refine wo_nil ?_ | refine g_skU ?_ | refine g_skT ?_ | refine g_skF ?_
    | ((first | apply s_plain | apply s_void | apply s_guard | apply g_goT | apply g_goF); · simp only [go_sem, Nat.reduceEqDiff, Nat.reduceAdd, Nat.reduceLeDiff]; (first | done | rfl))
    | ((first | apply g_T | apply g_F | apply g_gT | apply g_gF); · intro q1_; (first | intro q2_ | have q2_ := q1_); simp only [go_sem, Nat.reduceEqDiff, Nat.reduceAdd, Nat.reduceLeDiff, q1_, q2_]; (first | done | rfl))
    | (apply w_condX; · simp only [go_sem, Nat.reduceEqDiff, Nat.reduceAdd, Nat.reduceLeDiff]; (first | done | rfl)); (first | refine wcd_T ?_ | refine wcd_F ?_)
    | refine w_skip ?_ | refine w_exit ?_ | refine w_ret ?_
    | fail
    )
      exact ⟨by first | exact .inr rfl | exact .inr trivial | exact .inl rfl, by simp only [go_sem, Nat.reduceEqDiff, Nat.reduceAdd, Nat.reduceLeDiff, retOf, resOf, ruled_hit hi hbad]; first | done | rfl⟩
    · rw [hc] at hbad
      (repeat' first
    | refine w_seq ?_ | refine w_rg ?_ | refine wo_nil ?_ | refine g_skU ?_ | refine g_skT ?_ | refine g_skF ?_
    | ((first | apply s_plain | apply s_void | apply s_guard | apply g_goT | apply g_goF); · simp only [go_sem, Nat.reduceEqDiff, Nat.reduceAdd, Nat.reduceLeDiff]; (first | done | rfl))
    | ((first | apply g_T | apply g_F | apply g_gT | apply g_gF); · intro q1_; (first | intro q2_ | have q2_ := q1_); simp only [go_sem, Nat.reduceEqDiff, Nat.reduceAdd, Nat.reduceLeDiff, q1_, q2_]; (first | done | rfl))
    | (apply w_condX; · simp only [go_sem, Nat.reduceEqDiff, Nat.reduceAdd, Nat.reduceLeDiff]; (first | done | rfl)); (first | refine wcd_T ?_ | refine wcd_F ?_)
    | refine w_skip ?_ | refine w_exit ?_ | refine w_ret ?_
    | fail
    )
      intro j hj
      rcases Nat.lt_succ_iff_lt_or_eq.1 hj with h | h
      · exact h3 j h
      · rw [h]; exact hbad
  · rintro fr1 σ1 h3 hfr
    have e0_0 := hfr 0 rfl; try (simp only [go_sem, Nat.reduceEqDiff, Nat.reduceAdd, Nat.reduceLeDiff] at e0_0)
    try simp only [if_true]
    (repeat' first
    | refine w_seq ?_ | refine w_rg ?_ | refine wo_nil ?_ | refine g_skU ?_ | refine g_skT ?_ | refine g_skF ?_
    | ((first | apply s_plain | apply s_void | apply s_guard | apply g_goT | apply g_goF); · simp only [go_sem, Nat.reduceEqDiff, Nat.reduceAdd, Nat.reduceLeDiff, e0_0, hrl]; (first | done | rfl))
    | ((first | apply g_T | apply g_F | apply g_gT | apply g_gF); · intro q1_; (first | intro q2_ | have q2_ := q1_); simp only [go_sem, Nat.reduceEqDiff, Nat.reduceAdd, Nat.reduceLeDiff, e0_0, hrl, q1_, q2_]; (first | done | rfl))
    | (apply w_condX; · simp only [go_sem, Nat.reduceEqDiff, Nat.reduceAdd, Nat.reduceLeDiff, e0_0, hrl]; (first | done | rfl)); (first | refine wcd_T ?_ | refine wcd_F ?_)
    | refine w_skip ?_ | refine w_exit ?_ | refine w_ret ?_
    | fail
    )
    exact ⟨by first | exact .inr rfl | exact .inr trivial | exact .inl rfl, by simp only [go_sem, Nat.reduceEqDiff, Nat.reduceAdd, Nat.reduceLeDiff, retOf, resOf, ruled_all h3]; first | done | rfl⟩
theorem found_two (p : Nat → Bool) (n : Nat) : found p n = -1 ∨ ∃ i : Nat, found p n = i := by
  unfold found
  cases (List.range n).find? p with
  | none => exact .inl rfl
  | some i => exact .inr ⟨i, rfl⟩
theorem found_lt2 {p : Nat → Bool} {n i : Nat} (h : found p n = (i : Int)) : i < n := by
  obtain ⟨j, h1, h2⟩ := found_lt (p := p) (n := n) (by omega)
  omega
def ofR (l : List Rule) (n : ByteArray) : Rule := if found (isR l n) l.length < 0 then zeroR else l.getD (found (isR l n) l.length).toNat zeroR
def isOf (l : List Rule) (n : ByteArray) : Bool := l.any fun x => x.name.toList == n.toList
theorem a374 (W : Has lwa env) {l : List Rule} {n : ByteArray} (hn : l.length ≤ 9223372036854775807) : AV env 374 [.sl (rules l), .sc (.string n)] = some (.tu [rule (ofR l n), .sc (.bool (isOf l n))]) := by
  have hrl := rules_len l
  have h1 := idxS (env := env) (k0 := 392) (es := 8) (by rw [← d392_eq]; exact W (392, d392) (by simp [lwa])) (xs := rules l) (k := 393) (a := []) (b := [.fp [.sc (.string n)] 0 0]) (p := isR l n) (by rw [rules_len]; exact hn) (rules_agg l)
    (fun i e h σ => by obtain ⟨x, _, rfl, _⟩ := rules_get h; rfl)
    (fun i e h => by
      obtain ⟨x, _, rfl, hg⟩ := rules_get h
      have := a393 W (x := x) (n := n)
      unfold isR
      rw [hg]
      exact this)
  rw [hrl] at h1
  have hany : decide (found (isR l n) l.length ≥ 0) = isOf l n := found_any (l := l) (f := fun x => x.name.toList == n.toList) fun i x hx => by
    unfold isR
    rw [List.getD_eq_getElem?_getD, hx, Option.getD_some]
  unfold ofR
  refine AV_wp (W (374, d374) (by simp [lwa])) rfl ?_
  rcases found_two (isR l n) l.length with hf | ⟨i, hf⟩
  · rw [hf] at h1 hany ⊢
    rw [← hany]
    (repeat' first
    | refine w_seq ?_ | refine w_rg ?_ | refine wo_nil ?_ | refine g_skU ?_ | refine g_skT ?_ | refine g_skF ?_
    | ((first | apply s_plain | apply s_void | apply s_guard | apply g_goT | apply g_goF); · simp only [go_sem, Nat.reduceEqDiff, Nat.reduceAdd, Nat.reduceLeDiff, h1]; (first | done | rfl))
    | ((first | apply g_T | apply g_F | apply g_gT | apply g_gF); · intro q1_; (first | intro q2_ | have q2_ := q1_); simp only [go_sem, Nat.reduceEqDiff, Nat.reduceAdd, Nat.reduceLeDiff, h1, q1_, q2_]; (first | done | rfl))
    | (apply w_condX; · simp only [go_sem, Nat.reduceEqDiff, Nat.reduceAdd, Nat.reduceLeDiff, h1]; (first | done | rfl)); (first | refine wcd_T ?_ | refine wcd_F ?_)
    | refine w_skip ?_ | refine w_exit ?_ | refine w_ret ?_
    | fail
    )
    exact ⟨by first | exact .inr rfl | exact .inr trivial | exact .inl rfl, by simp only [go_sem, Nat.reduceEqDiff, Nat.reduceAdd, Nat.reduceLeDiff, retOf, resOf, rule, zeroR, labs, List.map_nil]; first | done | rfl⟩
  · have hi := found_lt2 hf
    have hx := List.getElem?_eq_getElem hi
    have hy := rules_at hx
    have e1 : (0 : Int) ≤ (i : Int) ∧ (i : Int) < (l.length : Int) := by omega
    have hgd : l.getD i zeroR = l[i] := by rw [List.getD_eq_getElem?_getD, hx, Option.getD_some]
    have e2 : decide ((i : Int) < 0) = false := decide_eq_false (by omega)
    rw [hf] at h1 hany ⊢
    rw [← hany, if_neg (by omega), Int.toNat_natCast, hgd]
    have e3 : decide ((i : Int) ≥ 0) = true := decide_eq_true (by omega)
    generalize l[i] = r at hy
    unfold rule at hy
    (repeat' first
    | refine w_seq ?_ | refine w_rg ?_ | refine wo_nil ?_ | refine g_skU ?_ | refine g_skT ?_ | refine g_skF ?_
    | ((first | apply s_plain | apply s_void | apply s_guard | apply g_goT | apply g_goF); · simp only [go_sem, Nat.reduceEqDiff, Nat.reduceAdd, Nat.reduceLeDiff, h1, hrl, e1, hy, Int.toNat_natCast, e2]; (first | done | rfl))
    | ((first | apply g_T | apply g_F | apply g_gT | apply g_gF); · intro q1_; (first | intro q2_ | have q2_ := q1_); simp only [go_sem, Nat.reduceEqDiff, Nat.reduceAdd, Nat.reduceLeDiff, h1, hrl, e1, hy, Int.toNat_natCast, e2, q1_, q2_]; (first | done | rfl))
    | (apply w_condX; · simp only [go_sem, Nat.reduceEqDiff, Nat.reduceAdd, Nat.reduceLeDiff, h1, hrl, e1, hy, Int.toNat_natCast, e2]; (first | done | rfl)); (first | refine wcd_T ?_ | refine wcd_F ?_)
    | refine w_skip ?_ | refine w_exit ?_ | refine w_ret ?_
    | fail
    )
    exact ⟨by first | exact .inr rfl | exact .inr trivial | exact .inl rfl, by simp only [go_sem, Nat.reduceEqDiff, Nat.reduceAdd, Nat.reduceLeDiff, retOf, resOf, rule, e3]; first | done | rfl⟩
theorem a383 (W : Has lwa env) {m n : Int} : AV env 383 [.sl [.sc (.int .i64 m), .sc (.int .i64 n)]] = some (.sc (.int .i64 (if m != 0 then m else n))) := by
  refine AV_wp (W (383, d383) (by simp [lwa])) rfl ?_
  (repeat' first
    | refine w_seq ?_ | refine w_rg ?_ | refine wo_nil ?_ | refine g_skU ?_ | refine g_skT ?_ | refine g_skF ?_
    | ((first | apply s_plain | apply s_void | apply s_guard | apply g_goT | apply g_goF); · simp only [go_sem, Nat.reduceEqDiff, Nat.reduceAdd, Nat.reduceLeDiff]; (first | done | rfl))
    | ((first | apply g_T | apply g_F | apply g_gT | apply g_gF); · intro q1_; (first | intro q2_ | have q2_ := q1_); simp only [go_sem, Nat.reduceEqDiff, Nat.reduceAdd, Nat.reduceLeDiff, q1_, q2_]; (first | done | rfl))
    | fail
    )
  refine w_block (w_rangeF 2 (by decide) (fun i fr σ => i = 0 ∨ m = 0 ∧ (i = 1 ∨ n = 0)) ⟨by decide, rfl, rfl⟩ (fun _ _ _ _ h => ⟨h, h, h⟩) (.inl rfl) (by simp only [go_sem, Nat.reduceEqDiff, Nat.reduceAdd, Nat.reduceLeDiff]; first | done | rfl) (by simp only [go_sem, Nat.reduceEqDiff, Nat.reduceAdd, Nat.reduceLeDiff]; first | done | rfl) ?_ ?_)
  · rintro i fr1 σ1 hi h3 hti hfr
    have f0_3 := hfr 3 rfl; have f0_6 := hfr 6 rfl; have f0_7 := hfr 7 rfl; try (simp only [go_sem, Nat.reduceEqDiff, Nat.reduceAdd, Nat.reduceLeDiff] at f0_3); try (simp only [go_sem, Nat.reduceEqDiff, Nat.reduceAdd, Nat.reduceLeDiff] at f0_6); try (simp only [go_sem, Nat.reduceEqDiff, Nat.reduceAdd, Nat.reduceLeDiff] at f0_7)
    refine w_block ?_
    rcases show i = 0 ∨ i = 1 by omega with rfl | rfl
    · (repeat' first
    | refine w_seq ?_ | refine w_rg ?_ | refine wo_nil ?_ | refine g_skU ?_ | refine g_skT ?_ | refine g_skF ?_
    | ((first | apply s_plain | apply s_void | apply s_guard | apply g_goT | apply g_goF); · simp only [go_sem, Nat.reduceEqDiff, Nat.reduceAdd, Nat.reduceLeDiff, f0_3, f0_6, f0_7, hti]; (first | done | rfl))
    | ((first | apply g_T | apply g_F | apply g_gT | apply g_gF); · intro q1_; (first | intro q2_ | have q2_ := q1_); simp only [go_sem, Nat.reduceEqDiff, Nat.reduceAdd, Nat.reduceLeDiff, f0_3, f0_6, f0_7, hti, q1_, q2_]; (first | done | rfl))
    | fail
    )
      refine w_condB (by simp only [go_sem, Nat.reduceEqDiff, Nat.reduceAdd, Nat.reduceLeDiff]; first | done | rfl) (fun hc => ?_) (fun hc => ?_)
      · (repeat' first
    | refine w_seq ?_ | refine w_rg ?_ | refine wo_nil ?_ | refine g_skU ?_ | refine g_skT ?_ | refine g_skF ?_
    | ((first | apply s_plain | apply s_void | apply s_guard | apply g_goT | apply g_goF); · simp only [go_sem, Nat.reduceEqDiff, Nat.reduceAdd, Nat.reduceLeDiff]; (first | done | rfl))
    | ((first | apply g_T | apply g_F | apply g_gT | apply g_gF); · intro q1_; (first | intro q2_ | have q2_ := q1_); simp only [go_sem, Nat.reduceEqDiff, Nat.reduceAdd, Nat.reduceLeDiff, q1_, q2_]; (first | done | rfl))
    | (apply w_condX; · simp only [go_sem, Nat.reduceEqDiff, Nat.reduceAdd, Nat.reduceLeDiff]; (first | done | rfl)); (first | refine wcd_T ?_ | refine wcd_F ?_)
    | refine w_skip ?_ | refine w_exit ?_ | refine w_ret ?_
    | fail
    )
        exact ⟨by first | exact .inr rfl | exact .inr trivial | exact .inl rfl, by simp only [go_sem, Nat.reduceEqDiff, Nat.reduceAdd, Nat.reduceLeDiff, retOf, resOf, hc]; first | done | rfl⟩
      · (repeat' first
    | refine w_seq ?_ | refine w_rg ?_ | refine wo_nil ?_ | refine g_skU ?_ | refine g_skT ?_ | refine g_skF ?_
    | ((first | apply s_plain | apply s_void | apply s_guard | apply g_goT | apply g_goF); · simp only [go_sem, Nat.reduceEqDiff, Nat.reduceAdd, Nat.reduceLeDiff]; (first | done | rfl))
    | ((first | apply g_T | apply g_F | apply g_gT | apply g_gF); · intro q1_; (first | intro q2_ | have q2_ := q1_); simp only [go_sem, Nat.reduceEqDiff, Nat.reduceAdd, Nat.reduceLeDiff, q1_, q2_]; (first | done | rfl))
    | (apply w_condX; · simp only [go_sem, Nat.reduceEqDiff, Nat.reduceAdd, Nat.reduceLeDiff]; (first | done | rfl)); (first | refine wcd_T ?_ | refine wcd_F ?_)
    | refine w_skip ?_ | refine w_exit ?_ | refine w_ret ?_
    | fail
    )
        exact .inr ⟨by simpa using hc, .inl rfl⟩
    · obtain ⟨hm, _⟩ := h3.resolve_left (by omega)
      have hm' : (m != 0) = false := by simp [hm]
      (repeat' first
    | refine w_seq ?_ | refine w_rg ?_ | refine wo_nil ?_ | refine g_skU ?_ | refine g_skT ?_ | refine g_skF ?_
    | ((first | apply s_plain | apply s_void | apply s_guard | apply g_goT | apply g_goF); · simp only [go_sem, Nat.reduceEqDiff, Nat.reduceAdd, Nat.reduceLeDiff, f0_3, f0_6, f0_7, hti]; (first | done | rfl))
    | ((first | apply g_T | apply g_F | apply g_gT | apply g_gF); · intro q1_; (first | intro q2_ | have q2_ := q1_); simp only [go_sem, Nat.reduceEqDiff, Nat.reduceAdd, Nat.reduceLeDiff, f0_3, f0_6, f0_7, hti, q1_, q2_]; (first | done | rfl))
    | fail
    )
      refine w_condB (by simp only [go_sem, Nat.reduceEqDiff, Nat.reduceAdd, Nat.reduceLeDiff]; first | done | rfl) (fun hc => ?_) (fun hc => ?_)
      · (repeat' first
    | refine w_seq ?_ | refine w_rg ?_ | refine wo_nil ?_ | refine g_skU ?_ | refine g_skT ?_ | refine g_skF ?_
    | ((first | apply s_plain | apply s_void | apply s_guard | apply g_goT | apply g_goF); · simp only [go_sem, Nat.reduceEqDiff, Nat.reduceAdd, Nat.reduceLeDiff]; (first | done | rfl))
    | ((first | apply g_T | apply g_F | apply g_gT | apply g_gF); · intro q1_; (first | intro q2_ | have q2_ := q1_); simp only [go_sem, Nat.reduceEqDiff, Nat.reduceAdd, Nat.reduceLeDiff, q1_, q2_]; (first | done | rfl))
    | (apply w_condX; · simp only [go_sem, Nat.reduceEqDiff, Nat.reduceAdd, Nat.reduceLeDiff]; (first | done | rfl)); (first | refine wcd_T ?_ | refine wcd_F ?_)
    | refine w_skip ?_ | refine w_exit ?_ | refine w_ret ?_
    | fail
    )
        exact ⟨by first | exact .inr rfl | exact .inr trivial | exact .inl rfl, by simp only [go_sem, Nat.reduceEqDiff, Nat.reduceAdd, Nat.reduceLeDiff, retOf, resOf, hm']; first | done | rfl⟩
      · (repeat' first
    | refine w_seq ?_ | refine w_rg ?_ | refine wo_nil ?_ | refine g_skU ?_ | refine g_skT ?_ | refine g_skF ?_
    | ((first | apply s_plain | apply s_void | apply s_guard | apply g_goT | apply g_goF); · simp only [go_sem, Nat.reduceEqDiff, Nat.reduceAdd, Nat.reduceLeDiff]; (first | done | rfl))
    | ((first | apply g_T | apply g_F | apply g_gT | apply g_gF); · intro q1_; (first | intro q2_ | have q2_ := q1_); simp only [go_sem, Nat.reduceEqDiff, Nat.reduceAdd, Nat.reduceLeDiff, q1_, q2_]; (first | done | rfl))
    | (apply w_condX; · simp only [go_sem, Nat.reduceEqDiff, Nat.reduceAdd, Nat.reduceLeDiff]; (first | done | rfl)); (first | refine wcd_T ?_ | refine wcd_F ?_)
    | refine w_skip ?_ | refine w_exit ?_ | refine w_ret ?_
    | fail
    )
        exact .inr ⟨hm, .inr (by simpa using hc)⟩
  · rintro fr1 σ1 h3 hfr
    have e0_3 := hfr 3 rfl; try (simp only [go_sem, Nat.reduceEqDiff, Nat.reduceAdd, Nat.reduceLeDiff] at e0_3)
    try simp only [if_true]
    obtain ⟨hm, hn⟩ := h3.resolve_left (by omega)
    have hn := hn.resolve_left (by omega)
    subst hm hn
    (repeat' first
    | refine w_seq ?_ | refine w_rg ?_ | refine wo_nil ?_ | refine g_skU ?_ | refine g_skT ?_ | refine g_skF ?_
    | ((first | apply s_plain | apply s_void | apply s_guard | apply g_goT | apply g_goF); · simp only [go_sem, Nat.reduceEqDiff, Nat.reduceAdd, Nat.reduceLeDiff, e0_3]; (first | done | rfl))
    | ((first | apply g_T | apply g_F | apply g_gT | apply g_gF); · intro q1_; (first | intro q2_ | have q2_ := q1_); simp only [go_sem, Nat.reduceEqDiff, Nat.reduceAdd, Nat.reduceLeDiff, e0_3, q1_, q2_]; (first | done | rfl))
    | (apply w_condX; · simp only [go_sem, Nat.reduceEqDiff, Nat.reduceAdd, Nat.reduceLeDiff, e0_3]; (first | done | rfl)); (first | refine wcd_T ?_ | refine wcd_F ?_)
    | refine w_skip ?_ | refine w_exit ?_ | refine w_ret ?_
    | fail
    )
    exact ⟨by first | exact .inr rfl | exact .inr trivial | exact .inl rfl, by simp only [go_sem, Nat.reduceEqDiff, Nat.reduceAdd, Nat.reduceLeDiff, retOf, resOf]; first | done | rfl⟩
def keyT (l : List Lab) : ByteArray := if rightL l = true then textS l else ⟨#[]⟩
def cmpA (a b : Al) : Int := if cmpB a.rule b.rule != 0 then cmpB a.rule b.rule else cmpB (keyT a.labels) (keyT b.labels)
theorem a369 (B : Wb env) (W : Has lwa env) {a b : Al} (ha : a.Fits) (hb : b.Fits) : AV env 369 [al a, al b] = some (.sc (.int .i64 (cmpA a b))) := by
  have h1 := a202 (la_la0 B.la) B.lc B.lp B.lu (l := a.labels) ha.l ha.s
  have h2 := a202 (la_la0 B.la) B.lc B.lp B.lu (l := b.labels) hb.l hb.s
  have h3 := a142 B.lo a.rule b.rule
  have h4 := a142 B.lo (keyT a.labels) (keyT b.labels)
  have h5 := a383 W (m := cmpB a.rule b.rule) (n := cmpB (keyT a.labels) (keyT b.labels))
  rw [show (if rightL a.labels = true then textS a.labels else ⟨#[]⟩) = keyT a.labels from rfl] at h1
  rw [show (if rightL b.labels = true then textS b.labels else ⟨#[]⟩) = keyT b.labels from rfl] at h2
  refine AV_wp (W (369, d369) (by simp [lwa])) rfl ?_
  unfold al
  (repeat' first
    | refine w_seq ?_ | refine w_rg ?_ | refine wo_nil ?_ | refine g_skU ?_ | refine g_skT ?_ | refine g_skF ?_
    | ((first | apply s_plain | apply s_void | apply s_guard | apply g_goT | apply g_goF); · simp only [go_sem, Nat.reduceEqDiff, Nat.reduceAdd, Nat.reduceLeDiff, h1, h2, h3, h4, h5, List.set_cons_succ]; (first | done | rfl))
    | ((first | apply g_T | apply g_F | apply g_gT | apply g_gF); · intro q1_; (first | intro q2_ | have q2_ := q1_); simp only [go_sem, Nat.reduceEqDiff, Nat.reduceAdd, Nat.reduceLeDiff, h1, h2, h3, h4, h5, List.set_cons_succ, q1_, q2_]; (first | done | rfl))
    | (apply w_condX; · simp only [go_sem, Nat.reduceEqDiff, Nat.reduceAdd, Nat.reduceLeDiff, h1, h2, h3, h4, h5, List.set_cons_succ]; (first | done | rfl)); (first | refine wcd_T ?_ | refine wcd_F ?_)
    | refine w_skip ?_ | refine w_exit ?_ | refine w_ret ?_
    | fail
    )
  exact ⟨by first | exact .inr rfl | exact .inr trivial | exact .inl rfl, by simp only [go_sem, Nat.reduceEqDiff, Nat.reduceAdd, Nat.reduceLeDiff, retOf, resOf, cmpA]; first | done | rfl⟩
def mayA (l : List Rule) (a : Al) : Bool :=
  !(!isOf l a.rule || !rightL a.labels || !((getB a.labels alertT).toList == a.rule.toList) || decide (a.state < 1) || decide (a.state > 3) || !timeB a.since || decide (a.tries < 1) || decide (a.tries > 10)) && (if a.state == 3 then decide (a.ended ≥ a.since) && timeB a.ended else a.ended == 0)
theorem a368 (B : Wb env) (W : Has lwa env) {l : List Rule} {a : Al} (hn : l.length ≤ 9223372036854775807) (ha : a.Fits) : AV env 368 [.sl (rules l), al a] = some (.sc (.bool (mayA l a))) := by
  have h374 := a374 W (l := l) (n := a.rule) hn
  have h113 := a113 (la_la0 B.la) B.lc (l := a.labels) ha.l ha.s
  have h114 := a114 B.lc (l := a.labels) (n := alertT) ha.l
  have h382 := a382 W a.since
  have h382b := a382 W a.ended
  generalize ofR l a.rule = r at h374
  refine AV_wp (W (368, d368) (by simp [lwa])) rfl ?_
  unfold al
  unfold rule at h374
  unfold alertT at h114
  unfold mayA alertT
  (repeat' first
    | refine w_seq ?_ | refine w_rg ?_ | refine wo_nil ?_ | refine g_skU ?_ | refine g_skT ?_ | refine g_skF ?_
    | ((first | apply s_plain | apply s_void | apply s_guard | apply g_goT | apply g_goF); · simp only [go_sem, Nat.reduceEqDiff, Nat.reduceAdd, Nat.reduceLeDiff, h374, h113, h114, h382]; (first | done | rfl))
    | ((first | apply g_T | apply g_F | apply g_gT | apply g_gF); · intro q1_; (first | intro q2_ | have q2_ := q1_); simp only [go_sem, Nat.reduceEqDiff, Nat.reduceAdd, Nat.reduceLeDiff, h374, h113, h114, h382, q1_, q2_]; (first | done | rfl))
    | fail
    )
  refine w_condB (by simp only [go_sem, Nat.reduceEqDiff, Nat.reduceAdd, Nat.reduceLeDiff]; first | done | rfl) (fun hc => ?_) (fun hc => ?_)
  · (repeat' first
    | refine w_seq ?_ | refine w_rg ?_ | refine wo_nil ?_ | refine g_skU ?_ | refine g_skT ?_ | refine g_skF ?_
    | ((first | apply s_plain | apply s_void | apply s_guard | apply g_goT | apply g_goF); · simp only [go_sem, Nat.reduceEqDiff, Nat.reduceAdd, Nat.reduceLeDiff]; (first | done | rfl))
    | ((first | apply g_T | apply g_F | apply g_gT | apply g_gF); · intro q1_; (first | intro q2_ | have q2_ := q1_); simp only [go_sem, Nat.reduceEqDiff, Nat.reduceAdd, Nat.reduceLeDiff, q1_, q2_]; (first | done | rfl))
    | (apply w_condX; · simp only [go_sem, Nat.reduceEqDiff, Nat.reduceAdd, Nat.reduceLeDiff]; (first | done | rfl)); (first | refine wcd_T ?_ | refine wcd_F ?_)
    | refine w_skip ?_ | refine w_exit ?_ | refine w_ret ?_
    | fail
    )
    exact ⟨by first | exact .inr rfl | exact .inr trivial | exact .inl rfl, by simp only [go_sem, Nat.reduceEqDiff, Nat.reduceAdd, Nat.reduceLeDiff, retOf, resOf, hc, Bool.false_and]; first | done | rfl⟩
  · have hc1 := hc
    clear hc
    (repeat' first
    | refine w_seq ?_ | refine w_rg ?_ | refine wo_nil ?_ | refine g_skU ?_ | refine g_skT ?_ | refine g_skF ?_
    | ((first | apply s_plain | apply s_void | apply s_guard | apply g_goT | apply g_goF); · simp only [go_sem, Nat.reduceEqDiff, Nat.reduceAdd, Nat.reduceLeDiff]; (first | done | rfl))
    | ((first | apply g_T | apply g_F | apply g_gT | apply g_gF); · intro q1_; (first | intro q2_ | have q2_ := q1_); simp only [go_sem, Nat.reduceEqDiff, Nat.reduceAdd, Nat.reduceLeDiff, q1_, q2_]; (first | done | rfl))
    | (apply w_condX; · simp only [go_sem, Nat.reduceEqDiff, Nat.reduceAdd, Nat.reduceLeDiff]; (first | done | rfl)); (first | refine wcd_T ?_ | refine wcd_F ?_)
    | refine w_skip ?_ | refine w_exit ?_ | refine w_ret ?_
    | fail
    )
    refine w_condB (by simp only [go_sem, Nat.reduceEqDiff, Nat.reduceAdd, Nat.reduceLeDiff]; first | done | rfl) (fun hc => ?_) (fun hc => ?_)
    · (repeat' first
    | refine w_seq ?_ | refine w_rg ?_ | refine wo_nil ?_ | refine g_skU ?_ | refine g_skT ?_ | refine g_skF ?_
    | ((first | apply s_plain | apply s_void | apply s_guard | apply g_goT | apply g_goF); · simp only [go_sem, Nat.reduceEqDiff, Nat.reduceAdd, Nat.reduceLeDiff, h382b]; (first | done | rfl))
    | ((first | apply g_T | apply g_F | apply g_gT | apply g_gF); · intro q1_; (first | intro q2_ | have q2_ := q1_); simp only [go_sem, Nat.reduceEqDiff, Nat.reduceAdd, Nat.reduceLeDiff, h382b, q1_, q2_]; (first | done | rfl))
    | (apply w_condX; · simp only [go_sem, Nat.reduceEqDiff, Nat.reduceAdd, Nat.reduceLeDiff, h382b]; (first | done | rfl)); (first | refine wcd_T ?_ | refine wcd_F ?_)
    | refine w_skip ?_ | refine w_exit ?_ | refine w_ret ?_
    | fail
    )
      exact ⟨by first | exact .inr rfl | exact .inr trivial | exact .inl rfl, by simp only [go_sem, Nat.reduceEqDiff, Nat.reduceAdd, Nat.reduceLeDiff, retOf, resOf, hc1, hc]; first | done | rfl⟩
    · (repeat' first
    | refine w_seq ?_ | refine w_rg ?_ | refine wo_nil ?_ | refine g_skU ?_ | refine g_skT ?_ | refine g_skF ?_
    | ((first | apply s_plain | apply s_void | apply s_guard | apply g_goT | apply g_goF); · simp only [go_sem, Nat.reduceEqDiff, Nat.reduceAdd, Nat.reduceLeDiff]; (first | done | rfl))
    | ((first | apply g_T | apply g_F | apply g_gT | apply g_gF); · intro q1_; (first | intro q2_ | have q2_ := q1_); simp only [go_sem, Nat.reduceEqDiff, Nat.reduceAdd, Nat.reduceLeDiff, q1_, q2_]; (first | done | rfl))
    | (apply w_condX; · simp only [go_sem, Nat.reduceEqDiff, Nat.reduceAdd, Nat.reduceLeDiff]; (first | done | rfl)); (first | refine wcd_T ?_ | refine wcd_F ?_)
    | refine w_skip ?_ | refine w_exit ?_ | refine w_ret ?_
    | fail
    )
      exact ⟨by first | exact .inr rfl | exact .inr trivial | exact .inl rfl, by simp only [go_sem, Nat.reduceEqDiff, Nat.reduceAdd, Nat.reduceLeDiff, retOf, resOf, hc1, hc]; first | done | rfl⟩
def nthA (l : List Al) (i : Nat) : Al := l.getD i ⟨⟨#[]⟩, [], 0, 0, 0, 0⟩
theorem nthA_eq {l : List Al} {i : Nat} (hi : i < l.length) : nthA l i = l[i] := by unfold nthA; rw [List.getD_eq_getElem?_getD, List.getElem?_eq_getElem hi, Option.getD_some]
def badA (l : List Rule) (a : List Al) (i : Nat) : Bool := !mayA l (nthA a i) || (decide ((i : Int) > 0) && decide (cmpA (nthA a (i - 1)) (nthA a i) ≥ 0))
def rightW (l : List Rule) (a : List Al) : Bool := (List.range a.length).all (fun i => !badA l a i) && ruledB l && decide (a.length ≤ 64)
theorem a353 (B : Wb env) (W : Has lwa env) {l : List Rule} {a : List Al} (hn : l.length ≤ 9223372036854775807) (hf : ∀ r ∈ l, r.Fits) (han : a.length ≤ 9223372036854775807) (haf : ∀ x ∈ a, x.Fits) : AV env 353 [.sl (rules l), .sl (als a)] = some (.sc (.bool (rightW l a))) := by
  have hal := als_len a
  have h370 := a370 B W hn hf
  refine AV_wp (W (353, d353) (by simp [lwa])) rfl ?_
  (repeat' first
    | refine w_seq ?_ | refine w_rg ?_ | refine wo_nil ?_ | refine g_skU ?_ | refine g_skT ?_ | refine g_skF ?_
    | ((first | apply s_plain | apply s_void | apply s_guard | apply g_goT | apply g_goF); · simp only [go_sem, Nat.reduceEqDiff, Nat.reduceAdd, Nat.reduceLeDiff, hal]; (first | done | rfl))
    | ((first | apply g_T | apply g_F | apply g_gT | apply g_gF); · intro q1_; (first | intro q2_ | have q2_ := q1_); simp only [go_sem, Nat.reduceEqDiff, Nat.reduceAdd, Nat.reduceLeDiff, hal, q1_, q2_]; (first | done | rfl))
    | fail
    )
  refine w_block (w_rangeF a.length han (fun i fr σ => ∀ j, j < i → badA l a j = false) ⟨by decide, rfl, rfl⟩ (fun _ _ _ _ h => ⟨h, h, h⟩) (fun j hj => by omega) (by simp only [go_sem, Nat.reduceEqDiff, Nat.reduceAdd, Nat.reduceLeDiff]; first | done | rfl) (by simp only [go_sem, Nat.reduceEqDiff, Nat.reduceAdd, Nat.reduceLeDiff, hal]; first | done | rfl) ?_ ?_)
  · rintro i fr1 σ1 hi h3 hti hfr
    have f0_0 := hfr 0 rfl; have f0_1 := hfr 1 rfl; have f0_7 := hfr 7 rfl; have f0_8 := hfr 8 rfl; try (simp only [go_sem, Nat.reduceEqDiff, Nat.reduceAdd, Nat.reduceLeDiff] at f0_0); try (simp only [go_sem, Nat.reduceEqDiff, Nat.reduceAdd, Nat.reduceLeDiff] at f0_1); try (simp only [go_sem, Nat.reduceEqDiff, Nat.reduceAdd, Nat.reduceLeDiff] at f0_7); try (simp only [go_sem, Nat.reduceEqDiff, Nat.reduceAdd, Nat.reduceLeDiff] at f0_8)
    have hx := List.getElem?_eq_getElem hi
    have hy := als_at hx
    have e1 : (0 : Int) ≤ (i : Int) ∧ (i : Int) < (a.length : Int) := by omega
    have h368 := a368 B W (l := l) hn (haf _ (List.getElem_mem hi))
    have hbad : badA l a i = (!mayA l a[i] || (decide ((i : Int) > 0) && decide (cmpA (nthA a (i - 1)) a[i] ≥ 0))) := by unfold badA; rw [nthA_eq hi]
    by_cases h0 : i = 0
    · have d0 : decide ((i : Int) > 0) = false := decide_eq_false (by omega)
      generalize a[i] = x at hy h368 hbad
      unfold al at hy h368
      rw [d0, Bool.false_and, Bool.or_false] at hbad
      refine w_block ?_
      cases hm : mayA l x with
      | true =>
        rw [hm] at hbad h368
        (repeat' first
    | refine w_seq ?_ | refine w_rg ?_ | refine wo_nil ?_ | refine g_skU ?_ | refine g_skT ?_ | refine g_skF ?_
    | ((first | apply s_plain | apply s_void | apply s_guard | apply g_goT | apply g_goF); · simp only [go_sem, Nat.reduceEqDiff, Nat.reduceAdd, Nat.reduceLeDiff, f0_0, f0_1, f0_7, f0_8, hti, e1, hal, Int.toNat_natCast, hy, h368, d0]; (first | done | rfl))
    | ((first | apply g_T | apply g_F | apply g_gT | apply g_gF); · intro q1_; (first | intro q2_ | have q2_ := q1_); simp only [go_sem, Nat.reduceEqDiff, Nat.reduceAdd, Nat.reduceLeDiff, f0_0, f0_1, f0_7, f0_8, hti, e1, hal, Int.toNat_natCast, hy, h368, d0, q1_, q2_]; (first | done | rfl))
    | (apply w_condX; · simp only [go_sem, Nat.reduceEqDiff, Nat.reduceAdd, Nat.reduceLeDiff, f0_0, f0_1, f0_7, f0_8, hti, e1, hal, Int.toNat_natCast, hy, h368, d0]; (first | done | rfl)); (first | refine wcd_T ?_ | refine wcd_F ?_)
    | refine w_skip ?_ | refine w_exit ?_ | refine w_ret ?_
    | fail
    )
        intro j hj
        obtain rfl : j = i := by omega
        exact hbad
      | false =>
        rw [hm] at hbad h368
        have hr : rightW l a = false := by unfold rightW; rw [show (List.range a.length).all (fun i => !badA l a i) = false from all_hit hi (by rw [hbad]; rfl)]; rfl
        (repeat' first
    | refine w_seq ?_ | refine w_rg ?_ | refine wo_nil ?_ | refine g_skU ?_ | refine g_skT ?_ | refine g_skF ?_
    | ((first | apply s_plain | apply s_void | apply s_guard | apply g_goT | apply g_goF); · simp only [go_sem, Nat.reduceEqDiff, Nat.reduceAdd, Nat.reduceLeDiff, f0_0, f0_1, f0_7, f0_8, hti, e1, hal, Int.toNat_natCast, hy, h368, d0]; (first | done | rfl))
    | ((first | apply g_T | apply g_F | apply g_gT | apply g_gF); · intro q1_; (first | intro q2_ | have q2_ := q1_); simp only [go_sem, Nat.reduceEqDiff, Nat.reduceAdd, Nat.reduceLeDiff, f0_0, f0_1, f0_7, f0_8, hti, e1, hal, Int.toNat_natCast, hy, h368, d0, q1_, q2_]; (first | done | rfl))
    | (apply w_condX; · simp only [go_sem, Nat.reduceEqDiff, Nat.reduceAdd, Nat.reduceLeDiff, f0_0, f0_1, f0_7, f0_8, hti, e1, hal, Int.toNat_natCast, hy, h368, d0]; (first | done | rfl)); (first | refine wcd_T ?_ | refine wcd_F ?_)
    | refine w_skip ?_ | refine w_exit ?_ | refine w_ret ?_
    | fail
    )
        exact ⟨by first | exact .inr rfl | exact .inr trivial | exact .inl rfl, by simp only [go_sem, Nat.reduceEqDiff, Nat.reduceAdd, Nat.reduceLeDiff, retOf, resOf, hr]; first | done | rfl⟩
    · have hi1 : i - 1 < a.length := by omega
      have hx1 := List.getElem?_eq_getElem hi1
      have hy1 := als_at hx1
      have e2 : (0 : Int) ≤ ((i - 1 : Nat) : Int) ∧ ((i - 1 : Nat) : Int) < (a.length : Int) := by omega
      have d0 : decide ((i : Int) > 0) = true := decide_eq_true (by omega)
      have w2 : IntKind.i64.wrap ((i : Int) - 1) = ((i - 1 : Nat) : Int) := by rw [IntKind.wrap_i64]; omega
      have h369 := a369 B W (haf _ (List.getElem_mem hi1)) (haf _ (List.getElem_mem hi))
      rw [nthA_eq hi1, d0, Bool.true_and] at hbad
      generalize a[i - 1] = y at hy1 h369 hbad
      generalize a[i] = x at hy h368 h369 hbad
      unfold al at hy hy1 h368 h369
      refine w_block ?_
      (repeat' first
    | refine w_seq ?_ | refine w_rg ?_ | refine wo_nil ?_ | refine g_skU ?_ | refine g_skT ?_ | refine g_skF ?_
    | ((first | apply s_plain | apply s_void | apply s_guard | apply g_goT | apply g_goF); · simp only [go_sem, Nat.reduceEqDiff, Nat.reduceAdd, Nat.reduceLeDiff, f0_0, f0_1, f0_7, f0_8, hti, e1, e2, hal, Int.toNat_natCast, hy, hy1, h368, h369, d0, w2]; (first | done | rfl))
    | ((first | apply g_T | apply g_F | apply g_gT | apply g_gF); · intro q1_; (first | intro q2_ | have q2_ := q1_); simp only [go_sem, Nat.reduceEqDiff, Nat.reduceAdd, Nat.reduceLeDiff, f0_0, f0_1, f0_7, f0_8, hti, e1, e2, hal, Int.toNat_natCast, hy, hy1, h368, h369, d0, w2, q1_, q2_]; (first | done | rfl))
    | fail
    )
      refine w_condB (by simp only [go_sem, Nat.reduceEqDiff, Nat.reduceAdd, Nat.reduceLeDiff]; first | done | rfl) (fun hc => ?_) (fun hc => ?_)
      · rw [hc] at hbad
        have hr : rightW l a = false := by unfold rightW; rw [show (List.range a.length).all (fun i => !badA l a i) = false from all_hit hi (by rw [hbad]; rfl)]; rfl
        (repeat' first
    | refine w_seq ?_ | refine w_rg ?_ | refine wo_nil ?_ | refine g_skU ?_ | refine g_skT ?_ | refine g_skF ?_
    | ((first | apply s_plain | apply s_void | apply s_guard | apply g_goT | apply g_goF); · simp only [go_sem, Nat.reduceEqDiff, Nat.reduceAdd, Nat.reduceLeDiff]; (first | done | rfl))
    | ((first | apply g_T | apply g_F | apply g_gT | apply g_gF); · intro q1_; (first | intro q2_ | have q2_ := q1_); simp only [go_sem, Nat.reduceEqDiff, Nat.reduceAdd, Nat.reduceLeDiff, q1_, q2_]; (first | done | rfl))
    | (apply w_condX; · simp only [go_sem, Nat.reduceEqDiff, Nat.reduceAdd, Nat.reduceLeDiff]; (first | done | rfl)); (first | refine wcd_T ?_ | refine wcd_F ?_)
    | refine w_skip ?_ | refine w_exit ?_ | refine w_ret ?_
    | fail
    )
        exact ⟨by first | exact .inr rfl | exact .inr trivial | exact .inl rfl, by simp only [go_sem, Nat.reduceEqDiff, Nat.reduceAdd, Nat.reduceLeDiff, retOf, resOf, hr]; first | done | rfl⟩
      · rw [hc] at hbad
        (repeat' first
    | refine w_seq ?_ | refine w_rg ?_ | refine wo_nil ?_ | refine g_skU ?_ | refine g_skT ?_ | refine g_skF ?_
    | ((first | apply s_plain | apply s_void | apply s_guard | apply g_goT | apply g_goF); · simp only [go_sem, Nat.reduceEqDiff, Nat.reduceAdd, Nat.reduceLeDiff]; (first | done | rfl))
    | ((first | apply g_T | apply g_F | apply g_gT | apply g_gF); · intro q1_; (first | intro q2_ | have q2_ := q1_); simp only [go_sem, Nat.reduceEqDiff, Nat.reduceAdd, Nat.reduceLeDiff, q1_, q2_]; (first | done | rfl))
    | (apply w_condX; · simp only [go_sem, Nat.reduceEqDiff, Nat.reduceAdd, Nat.reduceLeDiff]; (first | done | rfl)); (first | refine wcd_T ?_ | refine wcd_F ?_)
    | refine w_skip ?_ | refine w_exit ?_ | refine w_ret ?_
    | fail
    )
        intro j hj
        rcases Nat.lt_succ_iff_lt_or_eq.1 hj with h | h
        · exact h3 j h
        · rw [h]; exact hbad
  · rintro fr1 σ1 h3 hfr
    have e0_0 := hfr 0 rfl; have e0_1 := hfr 1 rfl; try (simp only [go_sem, Nat.reduceEqDiff, Nat.reduceAdd, Nat.reduceLeDiff] at e0_0); try (simp only [go_sem, Nat.reduceEqDiff, Nat.reduceAdd, Nat.reduceLeDiff] at e0_1)
    try simp only [if_true]
    have hall : (List.range a.length).all (fun i => !badA l a i) = true := all_all fun j hj => by rw [h3 j hj]; rfl
    have e3 : decide ((a.length : Int) ≤ 64) = decide (a.length ≤ 64) := by rw [decide_eq_decide]; omega
    (repeat' first
    | refine w_seq ?_ | refine w_rg ?_ | refine wo_nil ?_ | refine g_skU ?_ | refine g_skT ?_ | refine g_skF ?_
    | ((first | apply s_plain | apply s_void | apply s_guard | apply g_goT | apply g_goF); · simp only [go_sem, Nat.reduceEqDiff, Nat.reduceAdd, Nat.reduceLeDiff, e0_0, e0_1, hal, h370, e3]; (first | done | rfl))
    | ((first | apply g_T | apply g_F | apply g_gT | apply g_gF); · intro q1_; (first | intro q2_ | have q2_ := q1_); simp only [go_sem, Nat.reduceEqDiff, Nat.reduceAdd, Nat.reduceLeDiff, e0_0, e0_1, hal, h370, e3, q1_, q2_]; (first | done | rfl))
    | (apply w_condX; · simp only [go_sem, Nat.reduceEqDiff, Nat.reduceAdd, Nat.reduceLeDiff, e0_0, e0_1, hal, h370, e3]; (first | done | rfl)); (first | refine wcd_T ?_ | refine wcd_F ?_)
    | refine w_skip ?_ | refine w_exit ?_ | refine w_ret ?_
    | fail
    )
    exact ⟨by first | exact .inr rfl | exact .inr trivial | exact .inl rfl, by simp only [go_sem, Nat.reduceEqDiff, Nat.reduceAdd, Nat.reduceLeDiff, retOf, resOf, rightW, hall]; first | done | rfl⟩
theorem a387 (W : Has lwb env) {x : Al} {now : Int} : AV env 387 [al x, .fp [.sc (.int .i64 now)] 0 0] = some (.sc (.bool (decide (x.since > now) || decide (x.ended > now)))) := by
  refine AV_wp (W (387, d387) (by simp [lwb])) rfl ?_
  unfold al
  (repeat' first
    | refine w_seq ?_ | refine w_rg ?_ | refine wo_nil ?_ | refine g_skU ?_ | refine g_skT ?_ | refine g_skF ?_
    | ((first | apply s_plain | apply s_void | apply s_guard | apply g_goT | apply g_goF); · simp only [go_sem, Nat.reduceEqDiff, Nat.reduceAdd, Nat.reduceLeDiff]; (first | done | rfl))
    | ((first | apply g_T | apply g_F | apply g_gT | apply g_gF); · intro q1_; (first | intro q2_ | have q2_ := q1_); simp only [go_sem, Nat.reduceEqDiff, Nat.reduceAdd, Nat.reduceLeDiff, q1_, q2_]; (first | done | rfl))
    | (apply w_condX; · simp only [go_sem, Nat.reduceEqDiff, Nat.reduceAdd, Nat.reduceLeDiff]; (first | done | rfl)); (first | refine wcd_T ?_ | refine wcd_F ?_)
    | refine w_skip ?_ | refine w_exit ?_ | refine w_ret ?_
    | fail
    )
  exact ⟨by first | exact .inr rfl | exact .inr trivial | exact .inl rfl, by simp only [go_sem, Nat.reduceEqDiff, Nat.reduceAdd, Nat.reduceLeDiff, retOf, resOf]; first | done | rfl⟩
theorem als_agg (l : List Al) : ∀ (i : Nat) e, (als l)[i]? = some e → ∃ cs, e = .agg cs ∧ cs.length = 6 := by
  intro i e h
  simp only [als, List.getElem?_map] at h
  obtain ⟨x, _, rfl⟩ := Option.map_eq_some_iff.1 h
  exact ⟨_, rfl, rfl⟩
theorem als_get {l : List Al} {i : Nat} {e : PV} (h : (als l)[i]? = some e) : ∃ x, l[i]? = some x ∧ e = al x ∧ nthA l i = x := by
  simp only [als, List.getElem?_map] at h
  obtain ⟨x, hx, rfl⟩ := Option.map_eq_some_iff.1 h
  exact ⟨x, hx, rfl, by unfold nthA; rw [List.getD_eq_getElem?_getD, hx, Option.getD_some]⟩
def pastW (a : List Al) (now : Int) : Bool := a.any fun x => decide (x.since > now) || decide (x.ended > now)
theorem a386 (W : Has lwb env) {a : List Al} {now : Int} (hn : a.length ≤ 9223372036854775807) : AV env 386 [.sl (als a), .fn 387 [] [.fp [.sc (.int .i64 now)] 0 0]] = some (.sc (.bool (pastW a now))) := by
  have h1 := idxS (env := env) (k0 := 399) (es := 6) (by rw [← d399_eq]; exact W (399, d399) (by simp [lwb])) (xs := als a) (k := 387) (a := []) (b := [.fp [.sc (.int .i64 now)] 0 0]) (p := fun i => decide ((nthA a i).since > now) || decide ((nthA a i).ended > now)) (by rw [als_len]; exact hn) (als_agg a)
    (fun i e h σ => by obtain ⟨x, _, rfl, _⟩ := als_get h; rfl)
    (fun i e h => by
      obtain ⟨x, _, rfl, hg⟩ := als_get h
      have := a387 W (x := x) (now := now)
      rw [hg]
      exact this)
  have h2 := conF_g (env := env) (k0 := 399) (k1 := 386) (by rw [← d386_eq]; exact W (386, d386) (by simp [lwb])) (fun _ => rfl) (fun _ => rfl) h1
  rw [h2, als_len, found_any (l := a) (f := fun x => decide (x.since > now) || decide (x.ended > now))]
  · rfl
  · intro i x hx
    have : nthA a i = x := by unfold nthA; rw [List.getD_eq_getElem?_getD, hx, Option.getD_some]
    rw [this]
def askedW (l : List Rule) (a : List Al) (now : Int) : Int := if (!rightW l a || !timeB now) = true then 1 else if pastW a now = true then 12 else 0
theorem a371 (B : Wb env) (V : Has lwa env) (W : Has lwb env) {l : List Rule} {a : List Al} {now : Int} (hn : l.length ≤ 9223372036854775807) (hf : ∀ r ∈ l, r.Fits) (han : a.length ≤ 9223372036854775807) (haf : ∀ x ∈ a, x.Fits) : AV env 371 [.sl (rules l), .sl (als a), .sc (.int .i64 now)] = some (.sc (.int .i64 (askedW l a now))) := by
  have h353 := a353 B V hn hf han haf
  have h382 := a382 V now
  have h386 := a386 W (a := a) (now := now) han
  unfold askedW
  refine AV_wp (W (371, d371) (by simp [lwb])) rfl ?_
  (repeat' first
    | refine w_seq ?_ | refine w_rg ?_ | refine wo_nil ?_ | refine g_skU ?_ | refine g_skT ?_ | refine g_skF ?_
    | ((first | apply s_plain | apply s_void | apply s_guard | apply g_goT | apply g_goF); · simp only [go_sem, Nat.reduceEqDiff, Nat.reduceAdd, Nat.reduceLeDiff]; (first | done | rfl))
    | ((first | apply g_T | apply g_F | apply g_gT | apply g_gF); · intro q1_; (first | intro q2_ | have q2_ := q1_); simp only [go_sem, Nat.reduceEqDiff, Nat.reduceAdd, Nat.reduceLeDiff, q1_, q2_]; (first | done | rfl))
    | fail
    )
  refine w_block ?_
  (repeat' first
    | refine w_seq ?_ | refine w_rg ?_ | refine wo_nil ?_ | refine g_skU ?_ | refine g_skT ?_ | refine g_skF ?_
    | ((first | apply s_plain | apply s_void | apply s_guard | apply g_goT | apply g_goF); · simp only [go_sem, Nat.reduceEqDiff, Nat.reduceAdd, Nat.reduceLeDiff, h353, h382]; (first | done | rfl))
    | ((first | apply g_T | apply g_F | apply g_gT | apply g_gF); · intro q1_; (first | intro q2_ | have q2_ := q1_); simp only [go_sem, Nat.reduceEqDiff, Nat.reduceAdd, Nat.reduceLeDiff, h353, h382, q1_, q2_]; (first | done | rfl))
    | fail
    )
  refine w_condB (by simp only [go_sem, Nat.reduceEqDiff, Nat.reduceAdd, Nat.reduceLeDiff]; first | done | rfl) (fun hc => ?_) (fun hc => ?_)
  · (repeat' first
    | refine w_seq ?_ | refine w_rg ?_ | refine wo_nil ?_ | refine g_skU ?_ | refine g_skT ?_ | refine g_skF ?_
    | ((first | apply s_plain | apply s_void | apply s_guard | apply g_goT | apply g_goF); · simp only [go_sem, Nat.reduceEqDiff, Nat.reduceAdd, Nat.reduceLeDiff]; (first | done | rfl))
    | ((first | apply g_T | apply g_F | apply g_gT | apply g_gF); · intro q1_; (first | intro q2_ | have q2_ := q1_); simp only [go_sem, Nat.reduceEqDiff, Nat.reduceAdd, Nat.reduceLeDiff, q1_, q2_]; (first | done | rfl))
    | (apply w_condX; · simp only [go_sem, Nat.reduceEqDiff, Nat.reduceAdd, Nat.reduceLeDiff]; (first | done | rfl)); (first | refine wcd_T ?_ | refine wcd_F ?_)
    | refine w_skip ?_ | refine w_exit ?_ | refine w_ret ?_
    | fail
    )
    exact ⟨by first | exact .inr rfl | exact .inr trivial | exact .inl rfl, by simp only [go_sem, Nat.reduceEqDiff, Nat.reduceAdd, Nat.reduceLeDiff, retOf, resOf, hc]; first | done | rfl⟩
  · have hc1 := hc
    clear hc
    (repeat' first
    | refine w_seq ?_ | refine w_rg ?_ | refine wo_nil ?_ | refine g_skU ?_ | refine g_skT ?_ | refine g_skF ?_
    | ((first | apply s_plain | apply s_void | apply s_guard | apply g_goT | apply g_goF); · simp only [go_sem, Nat.reduceEqDiff, Nat.reduceAdd, Nat.reduceLeDiff, h386]; (first | done | rfl))
    | ((first | apply g_T | apply g_F | apply g_gT | apply g_gF); · intro q1_; (first | intro q2_ | have q2_ := q1_); simp only [go_sem, Nat.reduceEqDiff, Nat.reduceAdd, Nat.reduceLeDiff, h386, q1_, q2_]; (first | done | rfl))
    | fail
    )
    refine w_condB (by simp only [go_sem, Nat.reduceEqDiff, Nat.reduceAdd, Nat.reduceLeDiff]; first | done | rfl) (fun hc => ?_) (fun hc => ?_)
    · (repeat' first
    | refine w_seq ?_ | refine w_rg ?_ | refine wo_nil ?_ | refine g_skU ?_ | refine g_skT ?_ | refine g_skF ?_
    | ((first | apply s_plain | apply s_void | apply s_guard | apply g_goT | apply g_goF); · simp only [go_sem, Nat.reduceEqDiff, Nat.reduceAdd, Nat.reduceLeDiff]; (first | done | rfl))
    | ((first | apply g_T | apply g_F | apply g_gT | apply g_gF); · intro q1_; (first | intro q2_ | have q2_ := q1_); simp only [go_sem, Nat.reduceEqDiff, Nat.reduceAdd, Nat.reduceLeDiff, q1_, q2_]; (first | done | rfl))
    | (apply w_condX; · simp only [go_sem, Nat.reduceEqDiff, Nat.reduceAdd, Nat.reduceLeDiff]; (first | done | rfl)); (first | refine wcd_T ?_ | refine wcd_F ?_)
    | refine w_skip ?_ | refine w_exit ?_ | refine w_ret ?_
    | fail
    )
      exact ⟨by first | exact .inr rfl | exact .inr trivial | exact .inl rfl, by simp only [go_sem, Nat.reduceEqDiff, Nat.reduceAdd, Nat.reduceLeDiff, retOf, resOf, hc1, hc]; first | done | rfl⟩
    · (repeat' first
    | refine w_seq ?_ | refine w_rg ?_ | refine wo_nil ?_ | refine g_skU ?_ | refine g_skT ?_ | refine g_skF ?_
    | ((first | apply s_plain | apply s_void | apply s_guard | apply g_goT | apply g_goF); · simp only [go_sem, Nat.reduceEqDiff, Nat.reduceAdd, Nat.reduceLeDiff]; (first | done | rfl))
    | ((first | apply g_T | apply g_F | apply g_gT | apply g_gF); · intro q1_; (first | intro q2_ | have q2_ := q1_); simp only [go_sem, Nat.reduceEqDiff, Nat.reduceAdd, Nat.reduceLeDiff, q1_, q2_]; (first | done | rfl))
    | (apply w_condX; · simp only [go_sem, Nat.reduceEqDiff, Nat.reduceAdd, Nat.reduceLeDiff]; (first | done | rfl)); (first | refine wcd_T ?_ | refine wcd_F ?_)
    | refine w_skip ?_ | refine w_exit ?_ | refine w_ret ?_
    | fail
    )
      try simp only [if_true]
      (repeat' first
    | refine w_seq ?_ | refine w_rg ?_ | refine wo_nil ?_ | refine g_skU ?_ | refine g_skT ?_ | refine g_skF ?_
    | ((first | apply s_plain | apply s_void | apply s_guard | apply g_goT | apply g_goF); · simp only [go_sem, Nat.reduceEqDiff, Nat.reduceAdd, Nat.reduceLeDiff]; (first | done | rfl))
    | ((first | apply g_T | apply g_F | apply g_gT | apply g_gF); · intro q1_; (first | intro q2_ | have q2_ := q1_); simp only [go_sem, Nat.reduceEqDiff, Nat.reduceAdd, Nat.reduceLeDiff, q1_, q2_]; (first | done | rfl))
    | (apply w_condX; · simp only [go_sem, Nat.reduceEqDiff, Nat.reduceAdd, Nat.reduceLeDiff]; (first | done | rfl)); (first | refine wcd_T ?_ | refine wcd_F ?_)
    | refine w_skip ?_ | refine w_exit ?_ | refine w_ret ?_
    | fail
    )
      exact ⟨by first | exact .inr rfl | exact .inr trivial | exact .inl rfl, by simp only [go_sem, Nat.reduceEqDiff, Nat.reduceAdd, Nat.reduceLeDiff, retOf, resOf, hc1, hc]; first | done | rfl⟩
end

def d375 : Def := (.code 3 [.tmp 6] (.seq (.rg false [⟨.some 5, .none, .box (.t 2)⟩, ⟨.some 6, .none, .mv (.c (.bool false))⟩]) (.seq (.rg false [⟨.some 8, .none, .mv (.t 0)⟩, ⟨.some 9, .none, .nck (.t 8)⟩, ⟨.some 10, .none, .fa 0 (.t 9)⟩, ⟨.some 11, .none, .ld .none (.t 10)⟩, ⟨.some 12, .none, .mv (.t 1)⟩, ⟨.some 13, .none, .ia 6 (.t 11) (.t 12)⟩, ⟨.some 14, .none, .ld (.some 6) (.t 13)⟩, ⟨.some 7, .none, .box (.c (.agg #[.string ⟨#[]⟩, .slice .none 0 0, .int .i64 0, .int .i64 0, .int .i64 0, .int .i64 0]))⟩, ⟨.none, .none, .st 6 (.t 7) (.t 14)⟩]) (.seq (.seq (.rg true [⟨.some 15, .none, .fa 2 (.t 7)⟩, ⟨.some 16, .none, .ld .none (.t 15)⟩, ⟨.some 17, .none, .bin .neq (.t 16) (.c (.int .i64 3))⟩, ⟨.some 18, .none, .mv (.t 17)⟩, ⟨.some 19, .some (18, false), .mv (.t 0)⟩, ⟨.some 20, .some (18, false), .nck (.t 19)⟩, ⟨.some 21, .some (18, false), .fa 2 (.t 20)⟩, ⟨.some 22, .some (18, false), .ld .none (.t 21)⟩, ⟨.some 23, .some (18, false), .fa 5 (.t 7)⟩, ⟨.some 24, .some (18, false), .ld .none (.t 23)⟩, ⟨.some 25, .some (18, false), .bin .sub (.t 22) (.t 24)⟩, ⟨.some 26, .some (18, false), .fa 5 (.t 5)⟩, ⟨.some 27, .some (18, false), .ld .none (.t 26)⟩, ⟨.some 28, .some (18, false), .bin .lss (.t 25) (.t 27)⟩, ⟨.some 29, .none, .pick (.t 18) (.c (.bool true)) (.t 28)⟩]) (.cond (.t 29) (.seq (.rg false [⟨.some 6, .none, .mv (.c (.bool false))⟩]) .ret) .skip)) (.seq (.rg false [⟨.some 30, .none, .mv (.t 0)⟩, ⟨.some 31, .none, .mv (.t 0)⟩, ⟨.some 32, .none, .nck (.t 31)⟩, ⟨.some 33, .none, .fa 0 (.t 32)⟩, ⟨.some 34, .none, .ld .none (.t 33)⟩, ⟨.some 35, .none, .mv (.t 1)⟩, ⟨.some 36, .none, .mv (.t 1)⟩, ⟨.some 37, .none, .bin .add (.t 36) (.c (.int .i64 1))⟩, ⟨.some 38, .none, .call 391 .opn [.t 34, .t 35, .t 37]⟩, ⟨.some 39, .none, .nck (.t 30)⟩, ⟨.some 40, .none, .fa 0 (.t 39)⟩, ⟨.none, .none, .st 1 (.t 40) (.t 38)⟩]) (.seq (.rg true [⟨.some 41, .none, .mv (.t 0)⟩, ⟨.some 42, .none, .mv (.t 0)⟩, ⟨.some 43, .none, .nck (.t 42)⟩, ⟨.some 44, .none, .fa 1 (.t 43)⟩, ⟨.some 45, .none, .ld .none (.t 44)⟩, ⟨.some 46, .none, .fa 1 (.t 7)⟩, ⟨.some 47, .none, .ld .none (.t 46)⟩, ⟨.some 48, .none, .build (.agg #[.slice .none 0 0, .bool false]) [(0, (1, .t 47))]⟩, ⟨.some 49, .none, .bsl 2 (.agg #[.slice .none 0 0, .bool false]) 1 [(0, .t 48)]⟩, ⟨.some 50, .none, .app 2 32 false (.t 45) (.t 49)⟩, ⟨.some 51, .none, .nck (.t 41)⟩, ⟨.some 52, .none, .fa 1 (.t 51)⟩, ⟨.none, .none, .st 1 (.t 52) (.t 50)⟩]) (.seq (.rg false [⟨.some 6, .none, .mv (.c (.bool true))⟩]) .ret)))))))
def d390 : Def := (.code 3 [] (.seq (.rg false [⟨.some 5, .none, .box (.t 2)⟩]) (.seq (.rg false [⟨.some 6, .none, .mv (.t 1)⟩, ⟨.some 7, .none, .nck (.t 6)⟩, ⟨.some 8, .none, .fa 2 (.t 7)⟩, ⟨.some 9, .none, .ld .none (.t 8)⟩]) (.block 0 (.seq (.block 3 (.seq (.block 2 (.seq (.block 1 (.seq (.seq (.seq (.rg false [⟨.some 11, .none, .bin .eql (.t 9) (.c (.int .i64 3))⟩, ⟨.some 10, .none, .mv (.t 11)⟩]) (.cond (.t 10) (.exit 1) .skip)) (.seq (.seq (.rg false [⟨.some 13, .none, .bin .eql (.t 9) (.c (.int .i64 0))⟩, ⟨.some 12, .none, .mv (.t 13)⟩]) (.cond (.t 12) (.exit 2) .skip)) (.seq (.rg false [⟨.some 15, .none, .bin .eql (.t 9) (.c (.int .i64 1))⟩, ⟨.some 14, .none, .mv (.t 15)⟩]) (.cond (.t 14) (.exit 3) .skip)))) (.exit 0))) (.seq (.rg false [⟨.some 16, .none, .mv (.t 1)⟩, ⟨.some 17, .none, .mv (.t 1)⟩, ⟨.some 18, .none, .nck (.t 16)⟩, ⟨.some 19, .none, .fa 2 (.t 18)⟩, ⟨.none, .none, .st 1 (.t 19) (.c (.int .i64 2))⟩, ⟨.some 20, .none, .nck (.t 17)⟩, ⟨.some 21, .none, .fa 5 (.t 20)⟩, ⟨.none, .none, .st 1 (.t 21) (.c (.int .i64 0))⟩]) (.exit 0)))) (.rg false [⟨.some 22, .none, .mv (.t 1)⟩, ⟨.some 23, .none, .mv (.t 1)⟩, ⟨.some 24, .none, .mv (.t 0)⟩, ⟨.some 25, .none, .nck (.t 24)⟩, ⟨.some 26, .none, .fa 2 (.t 25)⟩, ⟨.some 27, .none, .ld .none (.t 26)⟩, ⟨.some 28, .none, .nck (.t 22)⟩, ⟨.some 29, .none, .fa 2 (.t 28)⟩, ⟨.none, .none, .st 1 (.t 29) (.c (.int .i64 1))⟩, ⟨.some 30, .none, .nck (.t 23)⟩, ⟨.some 31, .none, .fa 3 (.t 30)⟩, ⟨.none, .none, .st 1 (.t 31) (.t 27)⟩]))) (.seq (.seq (.rg false [⟨.some 32, .none, .mv (.t 1)⟩, ⟨.some 33, .none, .mv (.t 1)⟩, ⟨.some 34, .none, .nck (.t 33)⟩, ⟨.some 35, .none, .fa 4 (.t 34)⟩, ⟨.some 36, .none, .ld .none (.t 35)⟩, ⟨.some 37, .none, .bin .add (.t 36) (.c (.int .i64 1))⟩, ⟨.some 38, .none, .mnmx false [.t 37, .c (.int .i64 10)]⟩, ⟨.some 39, .none, .nck (.t 32)⟩, ⟨.some 40, .none, .fa 4 (.t 39)⟩, ⟨.none, .none, .st 1 (.t 40) (.t 38)⟩]) (.seq (.rg true [⟨.some 41, .none, .mv (.t 1)⟩, ⟨.some 42, .none, .nck (.t 41)⟩, ⟨.some 43, .none, .fa 4 (.t 42)⟩, ⟨.some 44, .none, .ld .none (.t 43)⟩, ⟨.some 45, .none, .fa 6 (.t 5)⟩, ⟨.some 46, .none, .ld .none (.t 45)⟩, ⟨.some 47, .none, .bin .geq (.t 44) (.t 46)⟩, ⟨.some 48, .none, .mv (.t 47)⟩, ⟨.some 49, .some (48, true), .mv (.t 0)⟩, ⟨.some 50, .some (48, true), .nck (.t 49)⟩, ⟨.some 51, .some (48, true), .fa 2 (.t 50)⟩, ⟨.some 52, .some (48, true), .ld .none (.t 51)⟩, ⟨.some 53, .some (48, true), .mv (.t 1)⟩, ⟨.some 54, .some (48, true), .nck (.t 53)⟩, ⟨.some 55, .some (48, true), .fa 3 (.t 54)⟩, ⟨.some 56, .some (48, true), .ld .none (.t 55)⟩, ⟨.some 57, .some (48, true), .bin .sub (.t 52) (.t 56)⟩, ⟨.some 58, .some (48, true), .fa 4 (.t 5)⟩, ⟨.some 59, .some (48, true), .ld .none (.t 58)⟩, ⟨.some 60, .some (48, true), .bin .geq (.t 57) (.t 59)⟩, ⟨.some 61, .none, .pick (.t 48) (.t 60) (.c (.bool false))⟩]) (.cond (.t 61) (.seq (.rg false [⟨.some 62, .none, .mv (.t 1)⟩, ⟨.some 63, .none, .nck (.t 62)⟩, ⟨.some 64, .none, .fa 2 (.t 63)⟩, ⟨.none, .none, .st 1 (.t 64) (.c (.int .i64 2))⟩]) (.rg true [⟨.some 65, .none, .mv (.t 0)⟩, ⟨.some 66, .none, .mv (.t 0)⟩, ⟨.some 67, .none, .nck (.t 66)⟩, ⟨.some 68, .none, .fa 1 (.t 67)⟩, ⟨.some 69, .none, .ld .none (.t 68)⟩, ⟨.some 70, .none, .mv (.t 1)⟩, ⟨.some 71, .none, .nck (.t 70)⟩, ⟨.some 72, .none, .fa 1 (.t 71)⟩, ⟨.some 73, .none, .ld .none (.t 72)⟩, ⟨.some 74, .none, .build (.agg #[.slice .none 0 0, .bool false]) [(0, (1, .t 73)), (1, (1, .c (.bool true)))]⟩, ⟨.some 75, .none, .bsl 2 (.agg #[.slice .none 0 0, .bool false]) 1 [(0, .t 74)]⟩, ⟨.some 76, .none, .app 2 32 false (.t 69) (.t 75)⟩, ⟨.some 77, .none, .nck (.t 65)⟩, ⟨.some 78, .none, .fa 1 (.t 77)⟩, ⟨.none, .none, .st 1 (.t 78) (.t 76)⟩])) .skip))) (.exit 0)))))))
def d388 : Def := (.code 3 [.tmp 6, .tmp 7] (.seq (.rg false [⟨.some 4, .none, .box (.t 1)⟩, ⟨.some 6, .none, .mv (.c (.int .i64 0))⟩, ⟨.some 7, .none, .mv (.c (.bool false))⟩]) (.seq (.rg false [⟨.some 12, .none, .mv (.t 0)⟩, ⟨.some 13, .none, .lenL (.t 12)⟩, ⟨.some 8, .none, .mv (.t 13)⟩]) (.seq (.rg false [⟨.some 14, .none, .mv (.t 8)⟩, ⟨.some 9, .none, .mv (.c (.int .i64 0))⟩, ⟨.some 10, .none, .mv (.t 14)⟩]) (.seq (.block 0 (.loop (.seq (.seq (.rg false [⟨.some 15, .none, .mv (.t 9)⟩, ⟨.some 16, .none, .mv (.t 10)⟩, ⟨.some 17, .none, .bin .lss (.t 15) (.t 16)⟩]) (.cond (.t 17) .skip (.exit 0))) (.block 1 (.seq (.rg false [⟨.some 18, .none, .mv (.t 9)⟩, ⟨.some 19, .none, .mv (.t 10)⟩, ⟨.some 20, .none, .bin .add (.t 18) (.t 19)⟩, ⟨.some 21, .none, .cvi .u64 (.t 20)⟩, ⟨.some 22, .none, .bin .shr (.t 21) (.c (.int .u64 1))⟩, ⟨.some 23, .none, .cvi .i64 (.t 22)⟩, ⟨.some 11, .none, .mv (.t 23)⟩]) (.seq (.rg true [⟨.some 24, .none, .mv (.t 2)⟩, ⟨.some 25, .none, .mv (.t 0)⟩, ⟨.some 26, .none, .mv (.t 11)⟩, ⟨.some 27, .none, .ia 6 (.t 25) (.t 26)⟩, ⟨.some 28, .none, .ld (.some 6) (.t 27)⟩, ⟨.some 29, .none, .ld (.some 6) (.t 4)⟩, ⟨.some 30, .none, .callv (.t 24) .strict [.t 28, .t 29]⟩, ⟨.some 31, .none, .bin .lss (.t 30) (.c (.int .i64 0))⟩]) (.cond (.t 31) (.rg false [⟨.some 32, .none, .mv (.t 11)⟩, ⟨.some 33, .none, .bin .add (.t 32) (.c (.int .i64 1))⟩, ⟨.some 9, .none, .mv (.t 33)⟩]) (.rg false [⟨.some 34, .none, .mv (.t 11)⟩, ⟨.some 10, .none, .mv (.t 34)⟩])))))))) (.seq (.rg true [⟨.some 35, .none, .mv (.t 9)⟩, ⟨.some 36, .none, .mv (.t 9)⟩, ⟨.some 37, .none, .mv (.t 8)⟩, ⟨.some 38, .none, .bin .lss (.t 36) (.t 37)⟩, ⟨.some 39, .none, .mv (.t 38)⟩, ⟨.some 40, .some (39, true), .mv (.t 2)⟩, ⟨.some 41, .some (39, true), .mv (.t 0)⟩, ⟨.some 42, .some (39, true), .mv (.t 9)⟩, ⟨.some 43, .some (39, true), .ia 6 (.t 41) (.t 42)⟩, ⟨.some 44, .some (39, true), .ld (.some 6) (.t 43)⟩, ⟨.some 45, .some (39, true), .ld (.some 6) (.t 4)⟩, ⟨.some 46, .some (39, true), .callv (.t 40) .strict [.t 44, .t 45]⟩, ⟨.some 47, .some (39, true), .bin .eql (.t 46) (.c (.int .i64 0))⟩, ⟨.some 48, .none, .pick (.t 39) (.t 47) (.c (.bool false))⟩, ⟨.some 6, .none, .mv (.t 35)⟩, ⟨.some 7, .none, .mv (.t 48)⟩]) .ret))))))
def lwc : List (Nat × Def) := [(375, d375), (390, d390), (388, d388), (389, .prim (insF 6 72)), (391, .prim (delF 6))]
theorem d388_eq : d388 = dBsB 6 6 := rfl
structure Ch where
  labels : List Lab
  fires : Bool
  deriving DecidableEq
def ch (c : Ch) : PV := .agg [.sl (labs c.labels), .sc (.bool c.fires)]
def chs (l : List Ch) : List PV := l.map ch
theorem chs_len (l : List Ch) : (chs l).length = l.length := by simp [chs]
section
variable {env : Nat → Option Def} {fr : Fr} {σ σ' σ'' : St} {K : Fr → St → Prop} {Q : X → Fr → St → Prop} {p : PV} {bs : List UInt8}
theorem EV_wpR {f np : Nat} {res : List PR} {body : PC} {ar : List PV} {r : PV} {R : St → Prop} (h : env f = some (.code np res body)) (hl : ar.length = np)
    (hw : Wp env body (fun x fr τ => (x = .normal ∨ x = .ret) ∧ retOf fr τ res = some r ∧ R τ) (frOf ar) σ) : ∃ σ', EV env f ar σ = some (r, σ') ∧ R σ' := by
  obtain ⟨x, fr', τ, h1, h2, h3, h4⟩ := hw
  refine ⟨τ, ?_, h4⟩
  rw [EV_code h ar hl, h1]
  rcases h2 with rfl | rfl <;> simp [backOf, h3]
theorem app_fresh {E : Ev} {d es by_ : Nat} {s' x : PA} (h : evO E d fr σ (.app es by_ false s' x) = some (p, σ')) (hF : Fresh σ) : Fresh σ' := by
  simp only [evO] at h
  obtain ⟨ys, hy, h⟩ := Option.bind_eq_some_iff.1 h
  split at h
  · split at h
    · split at h
      · split at h
        · simp only [Option.some.injEq, Prod.mk.injEq] at h
          rw [← h.2]; exact hF
        · simp only [Option.some.injEq, Prod.mk.injEq] at h
          rw [← h.2]; exact hF.new _ _
      · cases h
    · split at h
      · split at h
        · simp only [Option.some.injEq, Prod.mk.injEq] at h
          rw [← h.2]; exact hF
        · simp only [Option.some.injEq, Prod.mk.injEq] at h
          rw [← h.2]; exact hF.new _ _
      · cases h
    · split at h
      · rename_i hm
        split at h
        · simp only [Option.some.injEq, Prod.mk.injEq] at h
          rw [← h.2]; exact (hF.put hm _).new _ _
        · cases h
      · cases h
    · cases h
  · cases h
theorem s_gatF {d t es by_ : Nat} {os : List Nat} {x : PA} {xs : List PV} {e : PV} {ops : List POp} (hg : Gat σ os es false (fr t) xs) (hF : Fresh σ) (hsrc : srcOf σ es (pa fr x) = some [e]) (hok : okc e = true) (hl : (cellsOf e).length = es) (hb : (xs.length + 1) * by_ ≤ 70368744177664)
    (h2 : ∀ p σ', Gat σ' [d] es false p (xs ++ [e]) → Keeps σ σ' os → Fresh σ' → Wos env ops K (fr.set d p) σ') : Wos env (⟨some d, none, .app es by_ false (.t t) x⟩ :: ops) K fr σ := by
  obtain ⟨p, σ', h3, h4, h5⟩ := gat_appL (E := EV env) (d := d) (fr := fr) (s' := .t t) (x := x) (kw := false) (ys := [e]) hg hsrc (by simp [hok, hl]) (by simpa using hb)
  exact s_plain h3 (h2 p σ' h4 h5 (app_fresh h3 hF))
def RX : List Nat := [22, 25, 26, 47]
def RowA (σ : St) (p : PV) (xs : List PV) : Prop := (p = .em ∧ xs = []) ∨ ∃ o g, p = .ob o g 6 0 xs.length ∧ σ.m o g = some ⟨6, xs, true, true⟩ ∧ o ∈ RX
theorem RowA.lenP {xs : List PV} (h : RowA σ p xs) : lenP p = some xs.length := by
  rcases h with ⟨rfl, rfl⟩ | ⟨o, g, rfl, _⟩ <;> rfl
theorem RowA.ok {xs : List PV} (h : RowA σ p xs) : cellsOf p = [p] ∧ okc p = true := by
  rcases h with ⟨rfl, rfl⟩ | ⟨o, g, rfl, _⟩ <;> exact ⟨rfl, rfl⟩
theorem RowA.fz {xs : List PV} (h : RowA σ p xs) {d : Nat} (hx : xs.mapM (fz σ d) = some xs) : fz σ (d + 1) p = some (.sl xs) := by
  rcases h with ⟨rfl, rfl⟩ | ⟨o, g, rfl, h2, _⟩
  · rfl
  · rw [fz_ob, h2]
    simp [hx]
theorem RowA.same {xs : List PV} (h : RowA σ p xs) (hF : Fresh σ) (hm : ∀ o g, o ∈ RX → g < σ.c o → σ'.m o g = σ.m o g) : RowA σ' p xs := by
  rcases h with ⟨rfl, rfl⟩ | ⟨o, g, rfl, h2, h3⟩
  · exact .inl ⟨rfl, rfl⟩
  · exact .inr ⟨o, g, rfl, by rw [hm o g h3 (hF _ _ (by rw [h2]; rfl))]; exact h2, h3⟩
theorem x_ins (hk : env 389 = some (.prim (insF 6 72))) {q e : PV} {xs : List PV} {i o2 g2 : Nat} (hw : RowA σ q xs) (hi : i ≤ xs.length) (h2 : σ.m o2 g2 = some ⟨6, [e], true, true⟩) (ho2 : o2 ∉ RX) (hok : okc e = true) (hl : (cellsOf e).length = 6) (hb : (xs.length + 1) * 72 ≤ 70368744177664) (hF : Fresh σ) :
    ∃ r σ', EV env 389 [q, .sc (.int .i64 (i : Int)), .ob o2 g2 6 0 1] σ = some (r, σ') ∧ RowA σ' r (xs.take i ++ e :: xs.drop i) ∧ Keeps σ σ' RX ∧ Fresh σ' := by
  have hall : (([e] : List PV).all fun y => okc y && (cellsOf y).length == 6) = true := by simp [hok, hl]
  rw [EV_prim hk]
  rcases hw with ⟨rfl, rfl⟩ | ⟨o, g, rfl, h3, h4⟩
  · have hi0 : i = 0 := by simpa using hi
    subst hi0
    refine ⟨.ob 25 (σ.c 25) 6 0 1, σ.new 25 ⟨6, [e], true, true⟩, ?_, .inr ⟨25, σ.c 25, rfl, by simp [new_m], by decide⟩, ⟨fun o => new_c_le _ _ _ _, fun o g ho hg => ?_⟩, hF.new _ _⟩
    · simp only [insF, h2]
      rw [if_pos ⟨trivial, trivial, trivial, rfl, trivial, trivial, by decide, hall⟩]
      simp
    · simp only [new_m]; rw [if_neg (fun e => by obtain ⟨rfl, rfl⟩ := e; omega)]
  · have hne : ¬ (o = o2 ∧ g = g2) := fun h => ho2 (h.1 ▸ h4)
    refine ⟨.ob 25 (σ.c 25) 6 0 (xs.length + 1), (σ.put o g none).new 25 ⟨6, xs.take i ++ e :: xs.drop i, true, true⟩, ?_, .inr ⟨25, σ.c 25, ?_, by simp [new_m, put_c], by decide⟩, ⟨fun o' => ?_, fun o' g' ho hg => ?_⟩, (hF.put h3 _).new _ _⟩
    · simp only [insF, h2]
      rw [if_pos ⟨trivial, trivial, trivial, rfl, trivial, trivial, by decide, hall⟩]
      simp only [h3]
      rw [if_pos ⟨⟨trivial, trivial, trivial, trivial, trivial, trivial⟩, by omega, by omega, hne, by simpa using hb⟩]
      simp
    · have : (xs.take i ++ e :: xs.drop i).length = xs.length + 1 := by simp; omega
      rw [this]
    · simp only [new_c, put_c]
      split
      · rename_i h; subst h; omega
      · exact Nat.le_refl _
    · simp only [new_m, put_m]
      rw [if_neg (show ¬ (o' = 25 ∧ g' = (σ.put o g none).c 25) from fun e => by
        have e2 : g' = σ.c 25 := e.2
        rw [e.1] at hg
        omega), if_neg (show ¬ (o' = o ∧ g' = g) from fun e => ho (by rw [e.1]; exact h4))]
theorem x_del (hk : env 391 = some (.prim (delF 6))) {q : PV} {xs : List PV} {i : Nat} (hw : RowA σ q xs) (hi : i < xs.length) (hF : Fresh σ) :
    ∃ r σ', EV env 391 [q, .sc (.int .i64 (i : Int)), .sc (.int .i64 ((i + 1 : Nat) : Int))] σ = some (r, σ') ∧ RowA σ' r (xs.take i ++ xs.drop (i + 1)) ∧ Keeps σ σ' RX ∧ Fresh σ' := by
  rw [EV_prim hk]
  rcases hw with ⟨rfl, rfl⟩ | ⟨o, g, rfl, h3, h4⟩
  · simp at hi
  · refine ⟨.ob 26 (σ.c 26) 6 0 (i + (xs.length - (i + 1))), (σ.put o g none).new 26 ⟨6, xs.take i ++ xs.drop (i + 1), true, true⟩, ?_, .inr ⟨26, σ.c 26, ?_, by simp [new_m, put_c], by decide⟩, ⟨fun o' => ?_, fun o' g' ho hg => ?_⟩, (hF.put h3 _).new _ _⟩
    · simp only [delF, h3]
      rw [if_pos ⟨⟨trivial, trivial, trivial, trivial, trivial, trivial⟩, by omega, by omega, by omega⟩]
      simp
    · have : (xs.take i ++ xs.drop (i + 1)).length = i + (xs.length - (i + 1)) := by simp; omega
      rw [this]
    · simp only [new_c, put_c]
      split
      · rename_i h; subst h; omega
      · exact Nat.le_refl _
    · simp only [new_m, put_m]
      rw [if_neg (show ¬ (o' = 26 ∧ g' = (σ.put o g none).c 26) from fun e => by
        have e2 : g' = σ.c 26 := e.2
        rw [e.1] at hg
        omega), if_neg (show ¬ (o' = o ∧ g' = g) from fun e => ho (by rw [e.1]; exact h4))]
def CX : List Nat := [50, 76]
structure WO (σ : St) (o g : Nat) (A : List Al) (C : List Ch) (now : Int) (pA pC : PV) : Prop where
  hf : Fresh σ
  ho : o = 2000050 ∨ o = 2000025
  hm : σ.m o g = some ⟨3, [.agg [pA, pC, .sc (.int .i64 now)]], true, true⟩
  ha : RowA σ pA (als A)
  hc : Gat σ CX 2 false pC (chs C)
structure Kb (o g : Nat) (σ σ' : St) : Prop where
  c : ∀ x, σ.c x ≤ σ'.c x
  m : ∀ o' g', 2000000 ≤ o' → ¬ (o' = o ∧ g' = g) → g' < σ.c o' → σ'.m o' g' = σ.m o' g'
theorem mem_RX {o : Nat} (h : o ∈ RX) : o = 22 ∨ o = 25 ∨ o = 26 ∨ o = 47 := by simpa [RX] using h
theorem mem_CX {o : Nat} (h : o ∈ CX) : o = 50 ∨ o = 76 := by simpa [CX] using h
section
variable {o g : Nat} {A A' : List Al} {C C' : List Ch} {now : Int} {pA pC : PV} {σ0 τ : St}
theorem WO.lt (h : WO σ o g A C now pA pC) : g < σ.c o := h.hf _ _ (by rw [h.hm]; rfl)
theorem WO.same (h : WO σ o g A C now pA pC) (hF : Fresh τ) (hm : τ.m o g = σ.m o g) (hl : ∀ o' g', (o' ∈ RX ∨ o' ∈ CX) → g' < σ.c o' → τ.m o' g' = σ.m o' g') (hc : ∀ x, σ.c x ≤ τ.c x) : WO τ o g A C now pA pC := by
  refine ⟨hF, h.ho, by rw [hm]; exact h.hm, h.ha.same h.hf fun o' g' h1 h2 => hl o' g' (.inl h1) h2, ?_⟩
  rcases h.hc with h1 | ⟨o', g', wr, h1, h2, h3, h4, h5⟩
  · exact .inl h1
  · exact .inr ⟨o', g', wr, h1, h2, by rw [hl o' g' (.inr h1) h4]; exact h3, Nat.lt_of_lt_of_le h4 (hc o'), h5⟩
theorem WO.new (h : WO σ o g A C now pA pC) (s : Nat) (y : Obj) : WO (σ.new s y) o g A C now pA pC :=
  h.same (h.hf.new _ _) (by simp only [new_m]; rw [if_neg (fun e => by have := h.lt; rw [e.1, e.2] at this; omega)])
    (fun o' g' _ hg => by simp only [new_m]; rw [if_neg (fun e => by rw [e.1, e.2] at hg; omega)]) (fun x => new_c_le _ _ _ _)
theorem WO.put (h : WO σ o g A C now pA pC) {s k : Nat} {x : Obj} (hx : σ.m s k = some x) (hs : s ∉ RX ∧ s ∉ CX ∧ s ≠ o) (y : Option Obj) : WO (σ.put s k y) o g A C now pA pC :=
  h.same (h.hf.put hx _) (by simp only [put_m]; rw [if_neg (fun e => hs.2.2 e.1.symm)])
    (fun o' g' ho _ => by simp only [put_m]; rw [if_neg (fun e => by rcases ho with ho | ho; exact hs.1 (e.1 ▸ ho); exact hs.2.1 (e.1 ▸ ho))]) (fun x => Nat.le_refl _)
theorem WO.setRow (h : WO σ o g A C now pA pC) {r : PV} (hr : RowA τ r (als A')) (hk : Keeps σ τ RX) (hf : Fresh τ) : WO (τ.put o g (some ⟨3, [.agg [r, pC, .sc (.int .i64 now)]], true, true⟩)) o g A' C now r pC := by
  have ho : o ∉ RX := by rcases h.ho with e | e <;> rw [e] <;> decide
  have hm := (hk.m o g ho h.lt).trans h.hm
  have hlow : ∀ x, (x ∈ RX ∨ x ∈ CX) → x ≠ o := fun x hx e => by
    rcases h.ho with e2 | e2 <;> (rw [e2] at e; subst e; revert hx; decide)
  refine ⟨hf.put hm _, h.ho, by simp only [put_m, and_self, if_true], ?_, ?_⟩
  · rcases hr with h1 | ⟨o1, g1, h1, h2, h3⟩
    · exact .inl h1
    · exact .inr ⟨o1, g1, h1, by simp only [put_m]; rw [if_neg (fun e => hlow o1 (.inl h3) e.1)]; exact h2, h3⟩
  · rcases h.hc with h1 | ⟨o', g', wr, h1, h2, h3, h4, h5⟩
    · exact .inl h1
    · have hn : o' ∉ RX := by rcases mem_CX h1 with e | e <;> rw [e] <;> decide
      exact .inr ⟨o', g', wr, h1, h2, by simp only [put_m]; rw [if_neg (fun e => hlow o' (.inr h1) e.1), hk.m o' g' hn h4]; exact h3, Nat.lt_of_lt_of_le h4 (hk.c o'), h5⟩
theorem WO.setCh (h : WO σ o g A C now pA pC) {d : Nat} {r : PV} (hr : Gat τ [d] 2 false r (chs C')) (hd : d ∈ CX) (hk : Keeps σ τ CX) (hf : Fresh τ) : WO (τ.put o g (some ⟨3, [.agg [pA, r, .sc (.int .i64 now)]], true, true⟩)) o g A C' now pA r := by
  have ho : o ∉ CX := by rcases h.ho with e | e <;> rw [e] <;> decide
  have hm := (hk.m o g ho h.lt).trans h.hm
  have hlow : ∀ x, (x ∈ RX ∨ x ∈ CX) → x ≠ o := fun x hx e => by
    rcases h.ho with e2 | e2 <;> (rw [e2] at e; subst e; revert hx; decide)
  refine ⟨hf.put hm _, h.ho, by simp only [put_m, and_self, if_true], ?_, ?_⟩
  · rcases h.ha with h1 | ⟨o1, g1, h1, h2, h3⟩
    · exact .inl h1
    · have hn : o1 ∉ CX := by rcases mem_RX h3 with e | e | e | e <;> rw [e] <;> decide
      exact .inr ⟨o1, g1, h1, by simp only [put_m]; rw [if_neg (fun e => hlow o1 (.inl h3) e.1), hk.m o1 g1 hn (h.hf _ _ (by rw [h2]; rfl))]; exact h2, h3⟩
  · rcases hr with h1 | ⟨o', g', wr, h1, h2, h3, h4, h5⟩
    · exact .inl h1
    · simp only [List.mem_singleton] at h1
      exact .inr ⟨o', g', wr, by rw [h1]; exact hd, h2, by simp only [put_m]; rw [if_neg (fun e => hlow o' (.inr (by rw [h1]; exact hd)) e.1)]; exact h3, h4, h5⟩
theorem Kb.refl : Kb o g σ σ := ⟨fun _ => Nat.le_refl _, fun _ _ _ _ _ => rfl⟩
theorem Kb.trans (h : Kb o g σ σ') (h' : Kb o g σ' σ'') : Kb o g σ σ'' :=
  ⟨fun x => Nat.le_trans (h.c x) (h'.c x), fun o' g' h1 h2 h3 => by rw [h'.m o' g' h1 h2 (Nat.lt_of_lt_of_le h3 (h.c o')), h.m o' g' h1 h2 h3]⟩
theorem Kb.new (h : Kb o g σ σ') (s : Nat) (y : Obj) : Kb o g σ (σ'.new s y) :=
  ⟨fun x => Nat.le_trans (h.c x) (new_c_le _ _ _ _), fun o' g' h1 h2 h3 => by
    simp only [new_m]; rw [if_neg (fun e => by have := h.c o'; rw [e.2, e.1] at h3; rw [e.1] at this; omega)]; exact h.m o' g' h1 h2 h3⟩
theorem Kb.put (h : Kb o g σ σ') {s k : Nat} (hs : (s = o ∧ k = g) ∨ σ.c s ≤ k ∨ s < 2000000) (y : Option Obj) : Kb o g σ (σ'.put s k y) :=
  ⟨h.c, fun o' g' h1 h2 h3 => by
    simp only [put_m]
    rw [if_neg (fun e => by
      rcases hs with hs | hs | hs
      · exact h2 ⟨e.1.trans hs.1, e.2.trans hs.2⟩
      · rw [e.1, e.2] at h3; omega
      · rw [e.1] at h1; omega)]
    exact h.m o' g' h1 h2 h3⟩
theorem Kb.rx (h : Kb o g σ σ') (hm : ∀ s k, s ∉ RX → τ.m s k = σ'.m s k) (hc : ∀ s, τ.c s = σ'.c s) : Kb o g σ τ :=
  ⟨fun x => by rw [hc]; exact h.c x, fun o' g' h1 h2 h3 => by
    rw [hm o' g' (fun hr => by rcases mem_RX hr with e | e | e | e <;> omega)]; exact h.m o' g' h1 h2 h3⟩
theorem Kb.keep (h : Kb o g σ σ') {os : List Nat} (hk : Keeps σ' τ os) (hos : ∀ x ∈ os, x < 2000000) : Kb o g σ τ :=
  ⟨fun x => Nat.le_trans (h.c x) (hk.c x), fun o' g' h1 h2 h3 => by
    rw [hk.m o' g' (fun hm => by have := hos _ hm; omega) (Nat.lt_of_lt_of_le h3 (h.c o'))]; exact h.m o' g' h1 h2 h3⟩
end
theorem gat_okW {os : List Nat} {es : Nat} {w : Bool} {p : PV} {xs : List PV} (h : Gat σ os es w p xs) : cellsOf p = [p] ∧ okc p = true := by
  rcases h with ⟨rfl, _⟩ | ⟨o, g, wr, _, rfl, _⟩ <;> exact ⟨rfl, rfl⟩
theorem wos_j {ops : List POp} (J : Fr → St → Prop) (h : J fr σ) (k : ∀ fr σ, J fr σ → Wos env ops K fr σ) : Wos env ops K fr σ := k fr σ h
theorem w_j {pc : PC} (J : Fr → St → Prop) (h : J fr σ) (k : ∀ fr σ, J fr σ → Wp env pc Q fr σ) : Wp env pc Q fr σ := k fr σ h
theorem s_callO {d f : Nat} {args : List PA} {r : PV} {τ : St} {ops : List POp} (h : EV env f (args.map (pa fr)) σ = some (r, τ)) (h2 : Wos env ops K (fr.set d r) τ) : Wos env (⟨some d, none, .call f .opn args⟩ :: ops) K fr σ :=
  s_plain (show callE (EV env) f .opn (args.map (pa fr)) σ = some (r, τ) from h) h2
theorem s_del {d t1 t2 t3 i : Nat} {q : PV} {xs : List PV} {ops : List POp} (hk : env 391 = some (.prim (delF 6))) (hq : fr t1 = q) (h2 : fr t2 = .sc (.int .i64 (i : Int))) (h3 : fr t3 = .sc (.int .i64 ((i + 1 : Nat) : Int))) (hw : RowA σ q xs) (hi : i < xs.length) (hF : Fresh σ)
    (h : ∀ r τ, RowA τ r (xs.take i ++ xs.drop (i + 1)) → Keeps σ τ RX → Fresh τ → Wos env ops K (fr.set d r) τ) : Wos env (⟨some d, none, .call 391 .opn [.t t1, .t t2, .t t3]⟩ :: ops) K fr σ := by
  obtain ⟨r, τ, q1, q2, q3, q4⟩ := x_del hk hw hi hF
  exact s_callO (by simp only [List.map_cons, List.map_nil, pa_t, hq, h2, h3]; exact q1) (h r τ q2 q3 q4)
theorem s_ins {d t1 t2 t3 i o2 g2 : Nat} {q e : PV} {xs : List PV} {ops : List POp} (hk : env 389 = some (.prim (insF 6 72))) (hq : fr t1 = q) (h2 : fr t2 = .sc (.int .i64 (i : Int))) (h3 : fr t3 = .ob o2 g2 6 0 1) (hw : RowA σ q xs) (hi : i ≤ xs.length) (he : σ.m o2 g2 = some ⟨6, [e], true, true⟩) (ho2 : o2 ∉ RX) (hok : okc e = true) (hl : (cellsOf e).length = 6) (hb : (xs.length + 1) * 72 ≤ 70368744177664) (hF : Fresh σ)
    (h : ∀ r τ, RowA τ r (xs.take i ++ e :: xs.drop i) → Keeps σ τ RX → Fresh τ → Wos env ops K (fr.set d r) τ) : Wos env (⟨some d, none, .call 389 .opn [.t t1, .t t2, .t t3]⟩ :: ops) K fr σ := by
  obtain ⟨r, τ, q1, q2, q3, q4⟩ := x_ins hk hw hi he ho2 hok hl hb hF
  exact s_callO (by simp only [List.map_cons, List.map_nil, pa_t, hq, h2, h3]; exact q1) (h r τ q2 q3 q4)
def overB (a : Al) (r : Rule) (now : Int) : Bool := !((a.state != 3) || decide (now - a.ended < r.keep))
theorem a375 (V : Has lwc env) {o g i : Nat} {A : List Al} {C : List Ch} {now : Int} {pA pC : PV} {r : Rule} (hw : WO σ o g A C now pA pC) (hi : i < A.length) (hlen : A.length ≤ 1000) (hcl : C.length ≤ 100000) (hn : timeB now = true) (he : timeB A[i].ended = true) :
    ∃ σ', EV env 375 [.bx o g 3 0 0, .sc (.int .i64 (i : Int)), rule r] σ = some (.sc (.bool (overB A[i] r now)), σ') ∧ Kb o g σ σ' ∧
      ∃ pA' pC', WO σ' o g (if overB A[i] r now then A.take i ++ A.drop (i + 1) else A) (if overB A[i] r now then C ++ [⟨A[i].labels, false⟩] else C) now pA' pC' := by
  have hw := hw
  obtain ⟨hF, ho, hm, hA, hC⟩ := id hw
  have hx := List.getElem?_eq_getElem hi
  have hy := als_at hx
  have hal := als_len A
  have hok := hA.ok
  obtain ⟨o1, g1, rfl, h1, h2⟩ : ∃ o1 g1, pA = .ob o1 g1 6 0 A.length ∧ σ.m o1 g1 = some ⟨6, als A, true, true⟩ ∧ o1 ∈ RX := by
    rcases hA with ⟨_, h⟩ | ⟨o1, g1, h, h1, h2⟩
    · have := congrArg List.length h; rw [hal] at this; simp only [List.length_nil] at this; omega
    · rw [hal] at h; exact ⟨o1, g1, h, h1, h2⟩
  have e1 : (0 : Int) ≤ (i : Int) ∧ (i : Int) < (A.length : Int) := by omega
  unfold timeB at hn he
  simp only [Bool.and_eq_true, decide_eq_true_eq] at hn he
  have w1 : IntKind.i64.wrap (now - A[i].ended) = now - A[i].ended := by rw [IntKind.wrap_i64]; omega
  have w2 : IntKind.i64.wrap ((i : Int) + 1) = ((i + 1 : Nat) : Int) := by rw [IntKind.wrap_i64]; omega
  have hov : overB A[i] r now = !((A[i].state != 3) || decide (now - A[i].ended < r.keep)) := rfl
  generalize hq : A[i] = q at hy w1 hov
  have hne : ∀ k, o1 ≠ 2000000 + k := fun k e => by rw [e] at h2; simp [RX] at h2; omega
  have hgo : g < σ.c o := hF _ _ (by rw [hm]; rfl)
  unfold al at hy
  have n5 : (o1 = 2000005) = False := eq_false (hne 5)
  have n7 : (o1 = 2000007) = False := eq_false (hne 7)
  have nR : ∀ n, n ∉ RX → (o1 = n) = False := fun n hn => eq_false fun e => hn (e ▸ h2)
  rcases ho with rfl | rfl
  · refine EV_wpR (V (375, d375) (by simp [lwc])) rfl ?_
    unfold rule
    (repeat' first
    | refine w_seq ?_ | refine w_rg ?_ | refine wo_nil ?_ | refine g_skU ?_ | refine g_skT ?_ | refine g_skF ?_
    | ((first | apply s_plain | apply s_void | apply s_guard | apply g_goT | apply g_goF); · simp only [go_sem, Nat.reduceEqDiff, Nat.reduceAdd, Nat.reduceLeDiff, hm, h1, e1, hal, Int.toNat_natCast, hy, Nat.zero_add, n5, n7, w1]; (first | done | rfl))
    | ((first | apply g_T | apply g_F | apply g_gT | apply g_gF); · intro q1_; (first | intro q2_ | have q2_ := q1_); simp only [go_sem, Nat.reduceEqDiff, Nat.reduceAdd, Nat.reduceLeDiff, hm, h1, e1, hal, Int.toNat_natCast, hy, Nat.zero_add, n5, n7, w1, q1_, q2_]; (first | done | rfl))
    | fail
    )
    refine w_condB (by simp only [go_sem, Nat.reduceEqDiff, Nat.reduceAdd, Nat.reduceLeDiff]; first | done | rfl) (fun hc => ?_) (fun hc => ?_)
    · have hov0 : overB q r now = false := by rw [hov, hc]; rfl
      rw [hov0]
      (repeat' first
    | refine w_seq ?_ | refine w_rg ?_ | refine wo_nil ?_ | refine g_skU ?_ | refine g_skT ?_ | refine g_skF ?_
    | ((first | apply s_plain | apply s_void | apply s_guard | apply g_goT | apply g_goF); · simp only [go_sem, Nat.reduceEqDiff, Nat.reduceAdd, Nat.reduceLeDiff]; (first | done | rfl))
    | ((first | apply g_T | apply g_F | apply g_gT | apply g_gF); · intro q1_; (first | intro q2_ | have q2_ := q1_); simp only [go_sem, Nat.reduceEqDiff, Nat.reduceAdd, Nat.reduceLeDiff, q1_, q2_]; (first | done | rfl))
    | (apply w_condX; · simp only [go_sem, Nat.reduceEqDiff, Nat.reduceAdd, Nat.reduceLeDiff]; (first | done | rfl)); (first | refine wcd_T ?_ | refine wcd_F ?_)
    | refine w_skip ?_ | refine w_exit ?_ | refine w_ret ?_
    | fail
    )
      exact ⟨.inr rfl, by simp only [go_sem, Nat.reduceEqDiff, Nat.reduceAdd, Nat.reduceLeDiff, retOf, resOf], ((Kb.refl.new _ _).new _ _).put (.inr (.inl (by simp only [go_sem, Nat.reduceEqDiff, Nat.reduceAdd, Nat.reduceLeDiff]; first | done | exact Nat.le_refl _))) _, .ob o1 g1 6 0 A.length, pC, ((hw.new _ _).new _ _).put (by simp only [go_sem, Nat.reduceEqDiff, Nat.reduceAdd, Nat.reduceLeDiff]; rfl) (by decide) _⟩
    · have hov0 : overB q r now = true := by rw [hov, hc]; rfl
      rw [hov0]
      clear hov hc
      (repeat' first
    | refine w_seq ?_ | refine w_rg ?_ | refine wo_nil ?_ | refine g_skU ?_ | refine g_skT ?_ | refine g_skF ?_
    | ((first | apply s_plain | apply s_void | apply s_guard | apply g_goT | apply g_goF); · simp only [go_sem, Nat.reduceEqDiff, Nat.reduceAdd, Nat.reduceLeDiff, hm]; (first | done | rfl))
    | ((first | apply g_T | apply g_F | apply g_gT | apply g_gF); · intro q1_; (first | intro q2_ | have q2_ := q1_); simp only [go_sem, Nat.reduceEqDiff, Nat.reduceAdd, Nat.reduceLeDiff, hm, q1_, q2_]; (first | done | rfl))
    | (apply w_condX; · simp only [go_sem, Nat.reduceEqDiff, Nat.reduceAdd, Nat.reduceLeDiff, hm]; (first | done | rfl)); (first | refine wcd_T ?_ | refine wcd_F ?_)
    | refine w_skip ?_ | refine w_exit ?_ | refine w_ret ?_
    | fail
    )
      refine wos_j (fun fr τ => ∃ g7, (fr 0 = .bx 2000050 g 3 0 0 ∧ fr 1 = .sc (.int .i64 (i : Int)) ∧ fr 7 = .bx 2000007 g7 6 0 0 ∧ fr 30 = .bx 2000050 g 3 0 0 ∧ fr 34 = .ob o1 g1 6 0 A.length ∧ fr 35 = .sc (.int .i64 (i : Int)) ∧ fr 37 = .sc (.int .i64 ((i + 1 : Nat) : Int))) ∧
        WO τ 2000050 g A C now (.ob o1 g1 6 0 A.length) pC ∧ (τ.m 2000007 g7 = some ⟨6, [al q], true, true⟩ ∧ σ.c 2000007 ≤ g7 ∧ g7 < τ.c 2000007) ∧ Kb 2000050 g σ τ) ⟨σ.c 2000007, ⟨by simp only [go_sem, Nat.reduceEqDiff, Nat.reduceAdd, Nat.reduceLeDiff], by simp only [go_sem, Nat.reduceEqDiff, Nat.reduceAdd, Nat.reduceLeDiff], by simp only [go_sem, Nat.reduceEqDiff, Nat.reduceAdd, Nat.reduceLeDiff], by simp only [go_sem, Nat.reduceEqDiff, Nat.reduceAdd, Nat.reduceLeDiff], by simp only [go_sem, Nat.reduceEqDiff, Nat.reduceAdd, Nat.reduceLeDiff], by simp only [go_sem, Nat.reduceEqDiff, Nat.reduceAdd, Nat.reduceLeDiff], by simp only [go_sem, Nat.reduceEqDiff, Nat.reduceAdd, Nat.reduceLeDiff, w2]⟩, ((hw.new _ _).new _ _).put (by simp only [go_sem, Nat.reduceEqDiff, Nat.reduceAdd, Nat.reduceLeDiff]; rfl) (by decide) _, ⟨by simp only [go_sem, Nat.reduceEqDiff, Nat.reduceAdd, Nat.reduceLeDiff, al], Nat.le_refl _, by simp only [go_sem, Nat.reduceEqDiff, Nat.reduceAdd, Nat.reduceLeDiff]⟩, ((Kb.refl.new _ _).new _ _).put (.inr (.inl (by simp only [go_sem, Nat.reduceEqDiff, Nat.reduceAdd, Nat.reduceLeDiff]; first | done | exact Nat.le_refl _))) _⟩ ?_
      clear hm hgo
      rintro fr1 σ1 ⟨g7, ⟨f0, f1, f7, f30, f34, f35, f37⟩, hw1, ⟨m7, c7, d7⟩, hk1⟩
      refine s_del (V (391, .prim (delF 6)) (by simp [lwc])) f34 f35 f37 hw1.ha (by rw [hal]; exact hi) hw1.hf fun r1 τ1 q1 q2 q3 => ?_
      have hm1 := (q2.m 2000050 g (by decide) hw1.lt).trans hw1.hm
      have ok1 := q1.ok
      have htk : (als A).take i ++ (als A).drop (i + 1) = als (A.take i ++ A.drop (i + 1)) := by simp [als, List.map_take, List.map_drop]
      rw [htk] at q1
      have hw2 := hw1.setRow q1 q2 q3
      have m72 := (q2.m 2000007 g7 (by decide) d7).trans m7
      have d72 := Nat.lt_of_lt_of_le d7 (q2.c 2000007)
      have hk2 := (hk1.keep q2 (by decide)).put (s := 2000050) (k := g) (.inl ⟨rfl, rfl⟩) (some ⟨3, [.agg [r1, pC, .sc (.int .i64 now)]], true, true⟩)
      unfold al at m72
      (repeat' first
    | refine w_seq ?_ | refine w_rg ?_ | refine wo_nil ?_ | refine g_skU ?_ | refine g_skT ?_ | refine g_skF ?_
    | ((first | apply s_plain | apply s_void | apply s_guard | apply g_goT | apply g_goF); · simp only [go_sem, Nat.reduceEqDiff, Nat.reduceAdd, Nat.reduceLeDiff, f0, f1, f7, f30, hm1, ok1, m72]; (first | done | rfl))
    | ((first | apply g_T | apply g_F | apply g_gT | apply g_gF); · intro q1_; (first | intro q2_ | have q2_ := q1_); simp only [go_sem, Nat.reduceEqDiff, Nat.reduceAdd, Nat.reduceLeDiff, f0, f1, f7, f30, hm1, ok1, m72, q1_, q2_]; (first | done | rfl))
    | fail
    )
      refine s_gatF (d := 50) (t := 45) (x := .t 49) (os := CX) (es := 2) (by_ := 32) (xs := chs C) (e := ch ⟨q.labels, false⟩) (by simp only [go_sem, Nat.reduceEqDiff, Nat.reduceAdd, Nat.reduceLeDiff]; exact hw2.hc.new _) (hw2.hf.new _ _) (by simp only [go_sem, Nat.reduceEqDiff, Nat.reduceAdd, Nat.reduceLeDiff, srcOf, elemsOf, ch]) rfl rfl (by rw [chs_len]; omega) ?_
      intro r2 τ2 hg2 hk4 hf4
      have ok2 := gat_okW hg2
      rw [show chs C ++ [ch ⟨q.labels, false⟩] = chs (C ++ [⟨q.labels, false⟩]) by simp [chs]] at hg2
      have hm4 := (hk4.m 2000050 g (by decide) (hw2.new 49 _).lt).trans (hw2.new 49 _).hm
      have hw4 := (hw2.new 49 _).setCh hg2 (by decide) hk4 hf4
      (repeat' first
    | refine w_seq ?_ | refine w_rg ?_ | refine wo_nil ?_ | refine g_skU ?_ | refine g_skT ?_ | refine g_skF ?_
    | ((first | apply s_plain | apply s_void | apply s_guard | apply g_goT | apply g_goF); · simp only [go_sem, Nat.reduceEqDiff, Nat.reduceAdd, Nat.reduceLeDiff, f0, hm4, ok2]; (first | done | rfl))
    | ((first | apply g_T | apply g_F | apply g_gT | apply g_gF); · intro q1_; (first | intro q2_ | have q2_ := q1_); simp only [go_sem, Nat.reduceEqDiff, Nat.reduceAdd, Nat.reduceLeDiff, f0, hm4, ok2, q1_, q2_]; (first | done | rfl))
    | (apply w_condX; · simp only [go_sem, Nat.reduceEqDiff, Nat.reduceAdd, Nat.reduceLeDiff, f0, hm4, ok2]; (first | done | rfl)); (first | refine wcd_T ?_ | refine wcd_F ?_)
    | refine w_skip ?_ | refine w_exit ?_ | refine w_ret ?_
    | fail
    )
      exact ⟨.inr rfl, by simp only [go_sem, Nat.reduceEqDiff, Nat.reduceAdd, Nat.reduceLeDiff, retOf, resOf], (((hk2.new 49 _).keep hk4 (by decide)).put (.inl ⟨rfl, rfl⟩) _), r1, r2, hw4⟩
  · refine EV_wpR (V (375, d375) (by simp [lwc])) rfl ?_
    unfold rule
    (repeat' first
    | refine w_seq ?_ | refine w_rg ?_ | refine wo_nil ?_ | refine g_skU ?_ | refine g_skT ?_ | refine g_skF ?_
    | ((first | apply s_plain | apply s_void | apply s_guard | apply g_goT | apply g_goF); · simp only [go_sem, Nat.reduceEqDiff, Nat.reduceAdd, Nat.reduceLeDiff, hm, h1, e1, hal, Int.toNat_natCast, hy, Nat.zero_add, n5, n7, w1]; (first | done | rfl))
    | ((first | apply g_T | apply g_F | apply g_gT | apply g_gF); · intro q1_; (first | intro q2_ | have q2_ := q1_); simp only [go_sem, Nat.reduceEqDiff, Nat.reduceAdd, Nat.reduceLeDiff, hm, h1, e1, hal, Int.toNat_natCast, hy, Nat.zero_add, n5, n7, w1, q1_, q2_]; (first | done | rfl))
    | fail
    )
    refine w_condB (by simp only [go_sem, Nat.reduceEqDiff, Nat.reduceAdd, Nat.reduceLeDiff]; first | done | rfl) (fun hc => ?_) (fun hc => ?_)
    · have hov0 : overB q r now = false := by rw [hov, hc]; rfl
      rw [hov0]
      (repeat' first
    | refine w_seq ?_ | refine w_rg ?_ | refine wo_nil ?_ | refine g_skU ?_ | refine g_skT ?_ | refine g_skF ?_
    | ((first | apply s_plain | apply s_void | apply s_guard | apply g_goT | apply g_goF); · simp only [go_sem, Nat.reduceEqDiff, Nat.reduceAdd, Nat.reduceLeDiff]; (first | done | rfl))
    | ((first | apply g_T | apply g_F | apply g_gT | apply g_gF); · intro q1_; (first | intro q2_ | have q2_ := q1_); simp only [go_sem, Nat.reduceEqDiff, Nat.reduceAdd, Nat.reduceLeDiff, q1_, q2_]; (first | done | rfl))
    | (apply w_condX; · simp only [go_sem, Nat.reduceEqDiff, Nat.reduceAdd, Nat.reduceLeDiff]; (first | done | rfl)); (first | refine wcd_T ?_ | refine wcd_F ?_)
    | refine w_skip ?_ | refine w_exit ?_ | refine w_ret ?_
    | fail
    )
      exact ⟨.inr rfl, by simp only [go_sem, Nat.reduceEqDiff, Nat.reduceAdd, Nat.reduceLeDiff, retOf, resOf], ((Kb.refl.new _ _).new _ _).put (.inr (.inl (by simp only [go_sem, Nat.reduceEqDiff, Nat.reduceAdd, Nat.reduceLeDiff]; first | done | exact Nat.le_refl _))) _, .ob o1 g1 6 0 A.length, pC, ((hw.new _ _).new _ _).put (by simp only [go_sem, Nat.reduceEqDiff, Nat.reduceAdd, Nat.reduceLeDiff]; rfl) (by decide) _⟩
    · have hov0 : overB q r now = true := by rw [hov, hc]; rfl
      rw [hov0]
      clear hov hc
      (repeat' first
    | refine w_seq ?_ | refine w_rg ?_ | refine wo_nil ?_ | refine g_skU ?_ | refine g_skT ?_ | refine g_skF ?_
    | ((first | apply s_plain | apply s_void | apply s_guard | apply g_goT | apply g_goF); · simp only [go_sem, Nat.reduceEqDiff, Nat.reduceAdd, Nat.reduceLeDiff, hm]; (first | done | rfl))
    | ((first | apply g_T | apply g_F | apply g_gT | apply g_gF); · intro q1_; (first | intro q2_ | have q2_ := q1_); simp only [go_sem, Nat.reduceEqDiff, Nat.reduceAdd, Nat.reduceLeDiff, hm, q1_, q2_]; (first | done | rfl))
    | (apply w_condX; · simp only [go_sem, Nat.reduceEqDiff, Nat.reduceAdd, Nat.reduceLeDiff, hm]; (first | done | rfl)); (first | refine wcd_T ?_ | refine wcd_F ?_)
    | refine w_skip ?_ | refine w_exit ?_ | refine w_ret ?_
    | fail
    )
      refine wos_j (fun fr τ => ∃ g7, (fr 0 = .bx 2000025 g 3 0 0 ∧ fr 1 = .sc (.int .i64 (i : Int)) ∧ fr 7 = .bx 2000007 g7 6 0 0 ∧ fr 30 = .bx 2000025 g 3 0 0 ∧ fr 34 = .ob o1 g1 6 0 A.length ∧ fr 35 = .sc (.int .i64 (i : Int)) ∧ fr 37 = .sc (.int .i64 ((i + 1 : Nat) : Int))) ∧
        WO τ 2000025 g A C now (.ob o1 g1 6 0 A.length) pC ∧ (τ.m 2000007 g7 = some ⟨6, [al q], true, true⟩ ∧ σ.c 2000007 ≤ g7 ∧ g7 < τ.c 2000007) ∧ Kb 2000025 g σ τ) ⟨σ.c 2000007, ⟨by simp only [go_sem, Nat.reduceEqDiff, Nat.reduceAdd, Nat.reduceLeDiff], by simp only [go_sem, Nat.reduceEqDiff, Nat.reduceAdd, Nat.reduceLeDiff], by simp only [go_sem, Nat.reduceEqDiff, Nat.reduceAdd, Nat.reduceLeDiff], by simp only [go_sem, Nat.reduceEqDiff, Nat.reduceAdd, Nat.reduceLeDiff], by simp only [go_sem, Nat.reduceEqDiff, Nat.reduceAdd, Nat.reduceLeDiff], by simp only [go_sem, Nat.reduceEqDiff, Nat.reduceAdd, Nat.reduceLeDiff], by simp only [go_sem, Nat.reduceEqDiff, Nat.reduceAdd, Nat.reduceLeDiff, w2]⟩, ((hw.new _ _).new _ _).put (by simp only [go_sem, Nat.reduceEqDiff, Nat.reduceAdd, Nat.reduceLeDiff]; rfl) (by decide) _, ⟨by simp only [go_sem, Nat.reduceEqDiff, Nat.reduceAdd, Nat.reduceLeDiff, al], Nat.le_refl _, by simp only [go_sem, Nat.reduceEqDiff, Nat.reduceAdd, Nat.reduceLeDiff]⟩, ((Kb.refl.new _ _).new _ _).put (.inr (.inl (by simp only [go_sem, Nat.reduceEqDiff, Nat.reduceAdd, Nat.reduceLeDiff]; first | done | exact Nat.le_refl _))) _⟩ ?_
      clear hm hgo
      rintro fr1 σ1 ⟨g7, ⟨f0, f1, f7, f30, f34, f35, f37⟩, hw1, ⟨m7, c7, d7⟩, hk1⟩
      refine s_del (V (391, .prim (delF 6)) (by simp [lwc])) f34 f35 f37 hw1.ha (by rw [hal]; exact hi) hw1.hf fun r1 τ1 q1 q2 q3 => ?_
      have hm1 := (q2.m 2000025 g (by decide) hw1.lt).trans hw1.hm
      have ok1 := q1.ok
      have htk : (als A).take i ++ (als A).drop (i + 1) = als (A.take i ++ A.drop (i + 1)) := by simp [als, List.map_take, List.map_drop]
      rw [htk] at q1
      have hw2 := hw1.setRow q1 q2 q3
      have m72 := (q2.m 2000007 g7 (by decide) d7).trans m7
      have d72 := Nat.lt_of_lt_of_le d7 (q2.c 2000007)
      have hk2 := (hk1.keep q2 (by decide)).put (s := 2000025) (k := g) (.inl ⟨rfl, rfl⟩) (some ⟨3, [.agg [r1, pC, .sc (.int .i64 now)]], true, true⟩)
      unfold al at m72
      (repeat' first
    | refine w_seq ?_ | refine w_rg ?_ | refine wo_nil ?_ | refine g_skU ?_ | refine g_skT ?_ | refine g_skF ?_
    | ((first | apply s_plain | apply s_void | apply s_guard | apply g_goT | apply g_goF); · simp only [go_sem, Nat.reduceEqDiff, Nat.reduceAdd, Nat.reduceLeDiff, f0, f1, f7, f30, hm1, ok1, m72]; (first | done | rfl))
    | ((first | apply g_T | apply g_F | apply g_gT | apply g_gF); · intro q1_; (first | intro q2_ | have q2_ := q1_); simp only [go_sem, Nat.reduceEqDiff, Nat.reduceAdd, Nat.reduceLeDiff, f0, f1, f7, f30, hm1, ok1, m72, q1_, q2_]; (first | done | rfl))
    | fail
    )
      refine s_gatF (d := 50) (t := 45) (x := .t 49) (os := CX) (es := 2) (by_ := 32) (xs := chs C) (e := ch ⟨q.labels, false⟩) (by simp only [go_sem, Nat.reduceEqDiff, Nat.reduceAdd, Nat.reduceLeDiff]; exact hw2.hc.new _) (hw2.hf.new _ _) (by simp only [go_sem, Nat.reduceEqDiff, Nat.reduceAdd, Nat.reduceLeDiff, srcOf, elemsOf, ch]) rfl rfl (by rw [chs_len]; omega) ?_
      intro r2 τ2 hg2 hk4 hf4
      have ok2 := gat_okW hg2
      rw [show chs C ++ [ch ⟨q.labels, false⟩] = chs (C ++ [⟨q.labels, false⟩]) by simp [chs]] at hg2
      have hm4 := (hk4.m 2000025 g (by decide) (hw2.new 49 _).lt).trans (hw2.new 49 _).hm
      have hw4 := (hw2.new 49 _).setCh hg2 (by decide) hk4 hf4
      (repeat' first
    | refine w_seq ?_ | refine w_rg ?_ | refine wo_nil ?_ | refine g_skU ?_ | refine g_skT ?_ | refine g_skF ?_
    | ((first | apply s_plain | apply s_void | apply s_guard | apply g_goT | apply g_goF); · simp only [go_sem, Nat.reduceEqDiff, Nat.reduceAdd, Nat.reduceLeDiff, f0, hm4, ok2]; (first | done | rfl))
    | ((first | apply g_T | apply g_F | apply g_gT | apply g_gF); · intro q1_; (first | intro q2_ | have q2_ := q1_); simp only [go_sem, Nat.reduceEqDiff, Nat.reduceAdd, Nat.reduceLeDiff, f0, hm4, ok2, q1_, q2_]; (first | done | rfl))
    | (apply w_condX; · simp only [go_sem, Nat.reduceEqDiff, Nat.reduceAdd, Nat.reduceLeDiff, f0, hm4, ok2]; (first | done | rfl)); (first | refine wcd_T ?_ | refine wcd_F ?_)
    | refine w_skip ?_ | refine w_exit ?_ | refine w_ret ?_
    | fail
    )
      exact ⟨.inr rfl, by simp only [go_sem, Nat.reduceEqDiff, Nat.reduceAdd, Nat.reduceLeDiff, retOf, resOf], (((hk2.new 49 _).keep hk4 (by decide)).put (.inl ⟨rfl, rfl⟩) _), r1, r2, hw4⟩
theorem modA {A : List Al} {i : Nat} (hi : i < A.length) {f : PV → PV} {q' : Al} (h : f (al A[i]) = al q') : (als A).modify i f = als (A.set i q') := by
  apply List.ext_getElem?
  intro k
  rw [List.getElem?_modify]
  simp only [als, List.getElem?_map, List.getElem?_set]
  by_cases hk : i = k
  · subst hk
    simp [hi, h]
  · simp only [if_neg hk]
    cases A[k]? <;> rfl
theorem s_stA {o g o1 g1 i j ta : Nat} {A : List Al} {C : List Ch} {now : Int} {pC : PV} {q' : Al} {v : Value} {x : PA} {ops : List POp} (hw : WO σ o g A C now (.ob o1 g1 6 0 A.length) pC) (h1 : σ.m o1 g1 = some ⟨6, als A, true, true⟩) (h2 : o1 ∈ RX) (hi : i < A.length)
    (ha : fr ta = .bx o1 g1 6 i j) (hx : pa fr x = .sc v) (hj : j + 1 ≤ 6) (hq : PV.agg (splice (cellsOf (al A[i])) j [.sc v]) = al q')
    (k : ∀ τ, WO τ o g (A.set i q') C now (.ob o1 g1 6 0 A.length) pC → τ.m o1 g1 = some ⟨6, als (A.set i q'), true, true⟩ → (∀ s k, s ∉ RX → τ.m s k = σ.m s k) → (∀ s, τ.c s = σ.c s) → Wos env ops K fr τ) : Wos env (⟨none, none, .st 1 (.t ta) x⟩ :: ops) K fr σ := by
  have hlow : o1 ≠ o := fun e => by
    rcases hw.ho with e2 | e2 <;> (rw [e2] at e; rw [e] at h2; revert h2; decide)
  have hm : (σ.put o1 g1 (some ⟨6, als (A.set i q'), true, true⟩)).m o1 g1 = some ⟨6, als (A.set i q'), true, true⟩ := by simp only [put_m, and_self, if_true]
  have hoth : ∀ s k, s ∉ RX → (σ.put o1 g1 (some ⟨6, als (A.set i q'), true, true⟩)).m s k = σ.m s k := fun s k hs => by
    simp only [put_m]; rw [if_neg (fun e => hs (by rw [e.1]; exact h2))]
  refine s_void (v := .jk) (σ' := σ.put o1 g1 (some ⟨6, als (A.set i q'), true, true⟩)) ?_ (k _ ⟨hw.hf.put h1 _, hw.ho, ?_, .inr ⟨o1, g1, by rw [als_len, List.length_set], hm, h2⟩, ?_⟩ hm hoth fun _ => rfl)
  · simp only [evO, pa_t, ha, h1]
    rw [hx, if_pos ⟨trivial, trivial, trivial, rfl, hj, rfl, by rw [als_len]; exact hi⟩]
    rw [modA hi (q' := q')]
    rw [if_neg (by decide)]
    exact hq
  · rw [hoth o g (by rcases hw.ho with e | e <;> rw [e] <;> decide)]; exact hw.hm
  · rcases hw.hc with h | ⟨o', g', wr, q1, q2, q3, q4, q5⟩
    · exact .inl h
    · exact .inr ⟨o', g', wr, q1, q2, by rw [hoth o' g' (by rcases mem_CX q1 with e | e <;> rw [e] <;> decide)]; exact q3, q4, q5⟩
def bump (b : Al) : Al := { b with tries := if (10 : Int) < b.tries + 1 then 10 else b.tries + 1 }
def fireT (c : Al) (ls : List Lab) (r : Rule) (now : Int) : Al × List Ch := if r.tries ≤ c.tries ∧ r.for_ ≤ now - c.since then ({ c with state := 2 }, [⟨ls, true⟩]) else (c, [])
def fireA (a : Al) (r : Rule) (now : Int) : Al × List Ch :=
  if a.state = 3 then ({ a with state := 2, ended := 0 }, [])
  else if a.state = 0 ∨ a.state = 1 then fireT (bump (if a.state = 0 then { a with state := 1, since := now } else a)) a.labels r now
  else (a, [])
theorem a390 (V : Has lwc env) {o g i o1 g1 : Nat} {A : List Al} {C : List Ch} {now : Int} {pC : PV} {r : Rule} (hw : WO σ o g A C now (.ob o1 g1 6 0 A.length) pC) (hi : i < A.length) (hcl : C.length ≤ 100000) (hn : timeB now = true) (hs : timeB A[i].since = true) (ht : 0 ≤ A[i].tries ∧ A[i].tries ≤ 10) :
    ∃ σ', EV env 390 [.bx o g 3 0 0, .bx o1 g1 6 i 0, rule r] σ = some (.tu [], σ') ∧ Kb o g σ σ' ∧
      ∃ pC', WO σ' o g (A.set i (fireA A[i] r now).1) (C ++ (fireA A[i] r now).2) now (.ob o1 g1 6 0 A.length) pC' := by
  obtain ⟨h1, h2⟩ : σ.m o1 g1 = some ⟨6, als A, true, true⟩ ∧ o1 ∈ RX := by
    rcases hw.ha with ⟨h, _⟩ | ⟨o', g', h, h1, h2⟩
    · cases h
    · simp only [PV.ob.injEq] at h
      obtain ⟨rfl, rfl, _⟩ := h
      exact ⟨h1, h2⟩
  have hx := List.getElem?_eq_getElem hi
  have hy := als_at hx
  have hal := als_len A
  unfold timeB at hn hs
  simp only [Bool.and_eq_true, decide_eq_true_eq] at hn hs
  have hne : ∀ k, o1 ≠ 2000000 + k := fun k e => by rw [e] at h2; simp [RX] at h2; omega
  have n5 : (o1 = 2000005) = False := eq_false (hne 5)
  generalize hq : A[i] = q at hy hs ht
  unfold al at hy
  refine EV_wpR (V (390, d390) (by simp [lwc])) rfl ?_
  unfold rule
  (repeat' first
    | refine w_seq ?_ | refine w_rg ?_ | refine wo_nil ?_ | refine g_skU ?_ | refine g_skT ?_ | refine g_skF ?_
    | ((first | apply s_plain | apply s_void | apply s_guard | apply g_goT | apply g_goF); · simp only [go_sem, Nat.reduceEqDiff, Nat.reduceAdd, Nat.reduceLeDiff, h1, hal, hy, n5, Nat.zero_add]; (first | done | rfl))
    | ((first | apply g_T | apply g_F | apply g_gT | apply g_gF); · intro q1_; (first | intro q2_ | have q2_ := q1_); simp only [go_sem, Nat.reduceEqDiff, Nat.reduceAdd, Nat.reduceLeDiff, h1, hal, hy, n5, Nat.zero_add, q1_, q2_]; (first | done | rfl))
    | fail
    )
  refine w_j (fun fr τ => ∃ g5, (fr 0 = .bx o g 3 0 0 ∧ fr 1 = .bx o1 g1 6 i 0 ∧ fr 5 = .bx 2000005 g5 8 0 0 ∧ fr 9 = .sc (.int .i64 q.state)) ∧ WO τ o g A C now (.ob o1 g1 6 0 A.length) pC ∧ (τ.m o1 g1 = some ⟨6, als A, true, true⟩ ∧ τ.m 2000005 g5 = some ⟨8, [rule r], true, true⟩) ∧ Kb o g σ τ)
    ⟨σ.c 2000005, ⟨by simp only [go_sem, Nat.reduceEqDiff, Nat.reduceAdd, Nat.reduceLeDiff], by simp only [go_sem, Nat.reduceEqDiff, Nat.reduceAdd, Nat.reduceLeDiff], by simp only [go_sem, Nat.reduceEqDiff, Nat.reduceAdd, Nat.reduceLeDiff], by simp only [go_sem, Nat.reduceEqDiff, Nat.reduceAdd, Nat.reduceLeDiff]⟩, hw.new _ _, ⟨by simp only [go_sem, Nat.reduceEqDiff, Nat.reduceAdd, Nat.reduceLeDiff, n5, h1], by simp only [go_sem, Nat.reduceEqDiff, Nat.reduceAdd, Nat.reduceLeDiff, rule]⟩, Kb.refl.new _ _⟩ ?_
  clear h1 n5
  have hw0 := hw
  clear hw hw0
  rintro fr1 σ1 ⟨g5, ⟨f0, f1, f5, f9⟩, hw, ⟨h1, m5⟩, hk⟩
  refine w_block (w_seq (w_block (w_seq (w_block (w_seq (w_block ?_))))))
  by_cases s3 : q.state = 3
  · have c3 : (q.state == 3) = true := by simp [s3]
    have hfa : fireA q r now = ({ q with state := 2, ended := 0 }, []) := by unfold fireA; rw [if_pos s3]
    rw [hfa]
    (repeat' first
    | refine w_seq ?_ | refine w_rg ?_ | refine wo_nil ?_ | refine g_skU ?_ | refine g_skT ?_ | refine g_skF ?_
    | ((first | apply s_plain | apply s_void | apply s_guard | apply g_goT | apply g_goF); · simp only [go_sem, Nat.reduceEqDiff, Nat.reduceAdd, Nat.reduceLeDiff, f9, c3]; (first | done | rfl))
    | ((first | apply g_T | apply g_F | apply g_gT | apply g_gF); · intro q1_; (first | intro q2_ | have q2_ := q1_); simp only [go_sem, Nat.reduceEqDiff, Nat.reduceAdd, Nat.reduceLeDiff, f9, c3, q1_, q2_]; (first | done | rfl))
    | (apply w_condX; · simp only [go_sem, Nat.reduceEqDiff, Nat.reduceAdd, Nat.reduceLeDiff, f9, c3]; (first | done | rfl)); (first | refine wcd_T ?_ | refine wcd_F ?_)
    | refine w_skip ?_ | refine w_exit ?_ | refine w_ret ?_
    | fail
    )
    try simp only [if_true]
    (repeat' first
    | refine w_seq ?_ | refine w_rg ?_ | refine wo_nil ?_ | refine g_skU ?_ | refine g_skT ?_ | refine g_skF ?_
    | ((first | apply s_plain | apply s_void | apply s_guard | apply g_goT | apply g_goF); · simp only [go_sem, Nat.reduceEqDiff, Nat.reduceAdd, Nat.reduceLeDiff, f1]; (first | done | rfl))
    | ((first | apply g_T | apply g_F | apply g_gT | apply g_gF); · intro q1_; (first | intro q2_ | have q2_ := q1_); simp only [go_sem, Nat.reduceEqDiff, Nat.reduceAdd, Nat.reduceLeDiff, f1, q1_, q2_]; (first | done | rfl))
    | fail
    )
    refine s_stA hw h1 h2 hi (j := 2) (q' := { q with state := 2 }) (by simp only [go_sem, Nat.reduceEqDiff, Nat.reduceAdd, Nat.reduceLeDiff]) rfl (by decide) (by rw [hq]; rfl) fun τ hw1 h11 ho1 hc1 => ?_
    have hi1 : i < (A.set i { q with state := 2 }).length := by rw [List.length_set]; exact hi
    (repeat' first
    | refine w_seq ?_ | refine w_rg ?_ | refine wo_nil ?_ | refine g_skU ?_ | refine g_skT ?_ | refine g_skF ?_
    | ((first | apply s_plain | apply s_void | apply s_guard | apply g_goT | apply g_goF); · simp only [go_sem, Nat.reduceEqDiff, Nat.reduceAdd, Nat.reduceLeDiff, f1]; (first | done | rfl))
    | ((first | apply g_T | apply g_F | apply g_gT | apply g_gF); · intro q1_; (first | intro q2_ | have q2_ := q1_); simp only [go_sem, Nat.reduceEqDiff, Nat.reduceAdd, Nat.reduceLeDiff, f1, q1_, q2_]; (first | done | rfl))
    | fail
    )
    have hl1 : A.length = (A.set i { q with state := 2 }).length := by rw [List.length_set]
    rw [hl1] at hw1
    refine s_stA hw1 h11 h2 hi1 (j := 5) (q' := { q with state := 2, ended := 0 }) (by simp only [go_sem, Nat.reduceEqDiff, Nat.reduceAdd, Nat.reduceLeDiff]) rfl (by decide) (by rw [List.getElem_set_self]; rfl) fun τ2 hw2 h12 ho2 hc2 => ?_
    rw [← hl1, List.set_set] at hw2
    (repeat' first
    | refine w_seq ?_ | refine w_rg ?_ | refine wo_nil ?_ | refine g_skU ?_ | refine g_skT ?_ | refine g_skF ?_
    | ((first | apply s_plain | apply s_void | apply s_guard | apply g_goT | apply g_goF); · simp only [go_sem, Nat.reduceEqDiff, Nat.reduceAdd, Nat.reduceLeDiff]; (first | done | rfl))
    | ((first | apply g_T | apply g_F | apply g_gT | apply g_gF); · intro q1_; (first | intro q2_ | have q2_ := q1_); simp only [go_sem, Nat.reduceEqDiff, Nat.reduceAdd, Nat.reduceLeDiff, q1_, q2_]; (first | done | rfl))
    | (apply w_condX; · simp only [go_sem, Nat.reduceEqDiff, Nat.reduceAdd, Nat.reduceLeDiff]; (first | done | rfl)); (first | refine wcd_T ?_ | refine wcd_F ?_)
    | refine w_skip ?_ | refine w_exit ?_ | refine w_ret ?_
    | fail
    )
    try simp only [if_true]
    (repeat' first
    | refine w_seq ?_ | refine w_rg ?_ | refine wo_nil ?_ | refine g_skU ?_ | refine g_skT ?_ | refine g_skF ?_
    | ((first | apply s_plain | apply s_void | apply s_guard | apply g_goT | apply g_goF); · simp only [go_sem, Nat.reduceEqDiff, Nat.reduceAdd, Nat.reduceLeDiff]; (first | done | rfl))
    | ((first | apply g_T | apply g_F | apply g_gT | apply g_gF); · intro q1_; (first | intro q2_ | have q2_ := q1_); simp only [go_sem, Nat.reduceEqDiff, Nat.reduceAdd, Nat.reduceLeDiff, q1_, q2_]; (first | done | rfl))
    | (apply w_condX; · simp only [go_sem, Nat.reduceEqDiff, Nat.reduceAdd, Nat.reduceLeDiff]; (first | done | rfl)); (first | refine wcd_T ?_ | refine wcd_F ?_)
    | refine w_skip ?_ | refine w_exit ?_ | refine w_ret ?_
    | fail
    )
    exact ⟨by simp, by simp only [go_sem, Nat.reduceEqDiff, Nat.reduceAdd, Nat.reduceLeDiff, retOf, resOf], (hk.rx ho1 hc1).rx ho2 hc2, pC, by rw [List.append_nil]; exact hw2⟩
  · have c3 : (q.state == 3) = false := by simp [s3]
    by_cases s01 : q.state = 0 ∨ q.state = 1
    · have hfa : fireA q r now = fireT (bump (if q.state = 0 then { q with state := 1, since := now } else q)) q.labels r now := by
        unfold fireA
        rw [if_neg s3, if_pos s01]
      rw [hfa]
      generalize hb : (if q.state = 0 then ({ q with state := 1, since := now } : Al) else q) = b
      have hbl : b.labels = q.labels ∧ b.tries = q.tries ∧ b.state = 1 ∧ (b.since ≥ 0 ∧ b.since ≤ 1099511627776) := by
        rw [← hb]
        split
        · exact ⟨rfl, rfl, rfl, hn⟩
        · rename_i h0
          exact ⟨rfl, rfl, s01.resolve_left h0, hs⟩
      obtain ⟨hb1, hb2, hb3, hb4⟩ := hbl
      by_cases s0 : q.state = 0
      · have c0 : (q.state == 0) = true := by simp [s0]
        rw [if_pos s0] at hb
        (repeat' first
    | refine w_seq ?_ | refine w_rg ?_ | refine wo_nil ?_ | refine g_skU ?_ | refine g_skT ?_ | refine g_skF ?_
    | ((first | apply s_plain | apply s_void | apply s_guard | apply g_goT | apply g_goF); · simp only [go_sem, Nat.reduceEqDiff, Nat.reduceAdd, Nat.reduceLeDiff, f9, c3, c0]; (first | done | rfl))
    | ((first | apply g_T | apply g_F | apply g_gT | apply g_gF); · intro q1_; (first | intro q2_ | have q2_ := q1_); simp only [go_sem, Nat.reduceEqDiff, Nat.reduceAdd, Nat.reduceLeDiff, f9, c3, c0, q1_, q2_]; (first | done | rfl))
    | (apply w_condX; · simp only [go_sem, Nat.reduceEqDiff, Nat.reduceAdd, Nat.reduceLeDiff, f9, c3, c0]; (first | done | rfl)); (first | refine wcd_T ?_ | refine wcd_F ?_)
    | refine w_skip ?_ | refine w_exit ?_ | refine w_ret ?_
    | fail
    )
        try simp only [if_true]
        try simp only [if_true, Nat.reduceEqDiff, if_false]
        (repeat' first
    | refine w_seq ?_ | refine w_rg ?_ | refine wo_nil ?_ | refine g_skU ?_ | refine g_skT ?_ | refine g_skF ?_
    | ((first | apply s_plain | apply s_void | apply s_guard | apply g_goT | apply g_goF); · simp only [go_sem, Nat.reduceEqDiff, Nat.reduceAdd, Nat.reduceLeDiff, f0, f1, hw.hm]; (first | done | rfl))
    | ((first | apply g_T | apply g_F | apply g_gT | apply g_gF); · intro q1_; (first | intro q2_ | have q2_ := q1_); simp only [go_sem, Nat.reduceEqDiff, Nat.reduceAdd, Nat.reduceLeDiff, f0, f1, hw.hm, q1_, q2_]; (first | done | rfl))
    | fail
    )
        refine s_stA hw h1 h2 hi (j := 2) (q' := { q with state := 1 }) (by simp only [go_sem, Nat.reduceEqDiff, Nat.reduceAdd, Nat.reduceLeDiff]) rfl (by decide) (by rw [hq]; rfl) fun τ hw1 h11 ho1 hc1 => ?_
        have hi1 : i < (A.set i { q with state := 1 }).length := by rw [List.length_set]; exact hi
        (repeat' first
    | refine w_seq ?_ | refine w_rg ?_ | refine wo_nil ?_ | refine g_skU ?_ | refine g_skT ?_ | refine g_skF ?_
    | ((first | apply s_plain | apply s_void | apply s_guard | apply g_goT | apply g_goF); · simp only [go_sem, Nat.reduceEqDiff, Nat.reduceAdd, Nat.reduceLeDiff, f1]; (first | done | rfl))
    | ((first | apply g_T | apply g_F | apply g_gT | apply g_gF); · intro q1_; (first | intro q2_ | have q2_ := q1_); simp only [go_sem, Nat.reduceEqDiff, Nat.reduceAdd, Nat.reduceLeDiff, f1, q1_, q2_]; (first | done | rfl))
    | fail
    )
        have hl1 : A.length = (A.set i { q with state := 1 }).length := by rw [List.length_set]
        rw [hl1] at hw1
        refine s_stA hw1 h11 h2 hi1 (j := 3) (q' := b) (by simp only [go_sem, Nat.reduceEqDiff, Nat.reduceAdd, Nat.reduceLeDiff]) (by simp only [go_sem, Nat.reduceEqDiff, Nat.reduceAdd, Nat.reduceLeDiff]; rfl) (by decide) (by rw [List.getElem_set_self, ← hb]; rfl) fun τ2 hw2 h12 ho2 hc2 => ?_
        rw [← hl1, List.set_set] at hw2
        rw [List.set_set] at h12
        (repeat' first
    | refine w_seq ?_ | refine w_rg ?_ | refine wo_nil ?_ | refine g_skU ?_ | refine g_skT ?_ | refine g_skF ?_
    | ((first | apply s_plain | apply s_void | apply s_guard | apply g_goT | apply g_goF); · simp only [go_sem, Nat.reduceEqDiff, Nat.reduceAdd, Nat.reduceLeDiff]; (first | done | rfl))
    | ((first | apply g_T | apply g_F | apply g_gT | apply g_gF); · intro q1_; (first | intro q2_ | have q2_ := q1_); simp only [go_sem, Nat.reduceEqDiff, Nat.reduceAdd, Nat.reduceLeDiff, q1_, q2_]; (first | done | rfl))
    | (apply w_condX; · simp only [go_sem, Nat.reduceEqDiff, Nat.reduceAdd, Nat.reduceLeDiff]; (first | done | rfl)); (first | refine wcd_T ?_ | refine wcd_F ?_)
    | refine w_skip ?_ | refine w_exit ?_ | refine w_ret ?_
    | fail
    )
        refine wos_j (fun fr τ => (fr 0 = .bx o g 3 0 0 ∧ fr 1 = .bx o1 g1 6 i 0 ∧ fr 5 = .bx 2000005 g5 8 0 0 ∧ fr 32 = .bx o1 g1 6 i 0 ∧ fr 33 = .bx o1 g1 6 i 0) ∧ WO τ o g (A.set i b) C now (.ob o1 g1 6 0 A.length) pC ∧ (τ.m o1 g1 = some ⟨6, als (A.set i b), true, true⟩ ∧ τ.m 2000005 g5 = some ⟨8, [rule r], true, true⟩) ∧ Kb o g σ τ)
          ⟨⟨by simp only [go_sem, Nat.reduceEqDiff, Nat.reduceAdd, Nat.reduceLeDiff, f0], by simp only [go_sem, Nat.reduceEqDiff, Nat.reduceAdd, Nat.reduceLeDiff, f1], by simp only [go_sem, Nat.reduceEqDiff, Nat.reduceAdd, Nat.reduceLeDiff, f5], by simp only [go_sem, Nat.reduceEqDiff, Nat.reduceAdd, Nat.reduceLeDiff, f1], by simp only [go_sem, Nat.reduceEqDiff, Nat.reduceAdd, Nat.reduceLeDiff, f1]⟩, hw2, ⟨h12, by rw [ho2 _ _ (by decide), ho1 _ _ (by decide)]; exact m5⟩, (hk.rx ho1 hc1).rx ho2 hc2⟩ ?_
        rintro fr2 σ2 ⟨⟨f0, f1, f5, f32, f33⟩, hw2, ⟨h12, m52⟩, hk2⟩
        have hib : i < (A.set i b).length := by rw [List.length_set]; exact hi
        have hxb : (als (A.set i b))[i]? = some (al b) := als_at (by rw [List.getElem?_set_self hi])
        have hl1 : A.length = (A.set i b).length := by rw [List.length_set]
        have w1 : IntKind.i64.wrap (b.tries + 1) = b.tries + 1 := by rw [IntKind.wrap_i64]; omega
        have w2 : IntKind.i64.wrap (now - b.since) = now - b.since := by rw [IntKind.wrap_i64]; omega
        have hxb0 := hxb
        unfold al at hxb
        unfold rule at m52
        (repeat' first
    | refine w_seq ?_ | refine w_rg ?_ | refine wo_nil ?_ | refine g_skU ?_ | refine g_skT ?_ | refine g_skF ?_
    | ((first | apply s_plain | apply s_void | apply s_guard | apply g_goT | apply g_goF); · simp only [go_sem, Nat.reduceEqDiff, Nat.reduceAdd, Nat.reduceLeDiff, f33, f32, h12, hxb, w1, Nat.zero_add]; (first | done | rfl))
    | ((first | apply g_T | apply g_F | apply g_gT | apply g_gF); · intro q1_; (first | intro q2_ | have q2_ := q1_); simp only [go_sem, Nat.reduceEqDiff, Nat.reduceAdd, Nat.reduceLeDiff, f33, f32, h12, hxb, w1, Nat.zero_add, q1_, q2_]; (first | done | rfl))
    | fail
    )
        rw [hl1] at hw2
        refine s_stA hw2 h12 h2 hib (j := 4) (q' := (bump b)) (by simp only [go_sem, Nat.reduceEqDiff, Nat.reduceAdd, Nat.reduceLeDiff]) (by simp only [go_sem, Nat.reduceEqDiff, Nat.reduceAdd, Nat.reduceLeDiff, mnmx, mn1]; rfl) (by decide) (by rw [List.getElem_set_self]; rfl) fun τ3 hw3 h13 ho3 hc3 => ?_
        rw [← hl1, List.set_set] at hw3
        rw [List.set_set] at h13
        have hib3 : i < (A.set i (bump b)).length := by rw [List.length_set]; exact hi
        have hxc : (als (A.set i (bump b)))[i]? = some (al (bump b)) := als_at (by rw [List.getElem?_set_self hi])
        have m53 := (ho3 2000005 g5 (by decide)).trans m52
        have hm3 := hw3.hm
        generalize hcd : bump b = c at hw3 h13 hxc hib3
        have hcs : c.since = b.since ∧ c.labels = q.labels := by rw [← hcd]; exact ⟨rfl, hb1⟩
        have hl3 : A.length = (A.set i c).length := by rw [List.length_set]
        have hxc0 := hxc
        unfold al at hxc
        rw [hcs.1] at hxc
        (repeat' first
    | refine w_seq ?_ | refine w_rg ?_ | refine wo_nil ?_ | refine g_skU ?_ | refine g_skT ?_ | refine g_skF ?_
    | ((first | apply s_plain | apply s_void | apply s_guard | apply g_goT | apply g_goF); · simp only [go_sem, Nat.reduceEqDiff, Nat.reduceAdd, Nat.reduceLeDiff, f0, f1, f5, h13, hxc, m53, hm3, w2, Nat.zero_add]; (first | done | rfl))
    | ((first | apply g_T | apply g_F | apply g_gT | apply g_gF); · intro q1_; (first | intro q2_ | have q2_ := q1_); simp only [go_sem, Nat.reduceEqDiff, Nat.reduceAdd, Nat.reduceLeDiff, f0, f1, f5, h13, hxc, m53, hm3, w2, Nat.zero_add, q1_, q2_]; (first | done | rfl))
    | fail
    )
        rw [show fireT c q.labels r now = if r.tries ≤ c.tries ∧ r.for_ ≤ now - b.since then ({ c with state := 2 }, [⟨q.labels, true⟩]) else (c, []) by unfold fireT; rw [hcs.1]]
        refine w_condB (by simp only [go_sem, Nat.reduceEqDiff, Nat.reduceAdd, Nat.reduceLeDiff]; first | done | rfl) (fun hc => ?_) (fun hc => ?_)
        · have hcc : r.tries ≤ c.tries ∧ r.for_ ≤ now - b.since := by simpa using hc
          rw [if_pos hcc]
          (repeat' first
    | refine w_seq ?_ | refine w_rg ?_ | refine wo_nil ?_ | refine g_skU ?_ | refine g_skT ?_ | refine g_skF ?_
    | ((first | apply s_plain | apply s_void | apply s_guard | apply g_goT | apply g_goF); · simp only [go_sem, Nat.reduceEqDiff, Nat.reduceAdd, Nat.reduceLeDiff, f1]; (first | done | rfl))
    | ((first | apply g_T | apply g_F | apply g_gT | apply g_gF); · intro q1_; (first | intro q2_ | have q2_ := q1_); simp only [go_sem, Nat.reduceEqDiff, Nat.reduceAdd, Nat.reduceLeDiff, f1, q1_, q2_]; (first | done | rfl))
    | fail
    )
          rw [hl3] at hw3
          refine s_stA hw3 h13 h2 hib3 (j := 2) (q' := { c with state := 2 }) (by simp only [go_sem, Nat.reduceEqDiff, Nat.reduceAdd, Nat.reduceLeDiff]) rfl (by decide) (by rw [List.getElem_set_self]; rfl) fun τ4 hw4 h14 ho4 hc4 => ?_
          rw [← hl3, List.set_set] at hw4
          rw [List.set_set] at h14
          have hxd : (als (A.set i { c with state := 2 }))[i]? = some (al { c with state := 2 }) := als_at (by rw [List.getElem?_set_self hi])
          unfold al at hxd
          have hm4 := hw4.hm
          (repeat' first
    | refine w_seq ?_ | refine w_rg ?_ | refine wo_nil ?_ | refine g_skU ?_ | refine g_skT ?_ | refine g_skF ?_
    | ((first | apply s_plain | apply s_void | apply s_guard | apply g_goT | apply g_goF); · simp only [go_sem, Nat.reduceEqDiff, Nat.reduceAdd, Nat.reduceLeDiff, f0, f1, h14, hxd, hm4, Nat.zero_add]; (first | done | rfl))
    | ((first | apply g_T | apply g_F | apply g_gT | apply g_gF); · intro q1_; (first | intro q2_ | have q2_ := q1_); simp only [go_sem, Nat.reduceEqDiff, Nat.reduceAdd, Nat.reduceLeDiff, f0, f1, h14, hxd, hm4, Nat.zero_add, q1_, q2_]; (first | done | rfl))
    | fail
    )
          refine s_gatF (d := 76) (t := 69) (x := .t 75) (os := CX) (es := 2) (by_ := 32) (xs := chs C) (e := ch ⟨c.labels, true⟩) (by simp only [go_sem, Nat.reduceEqDiff, Nat.reduceAdd, Nat.reduceLeDiff]; exact hw4.hc.new _) (hw4.hf.new _ _) (by simp only [go_sem, Nat.reduceEqDiff, Nat.reduceAdd, Nat.reduceLeDiff, srcOf, elemsOf, ch]) rfl rfl (by rw [chs_len]; omega) ?_
          intro r2 τ5 hg2 hk4 hf4
          have ok2 := gat_okW hg2
          rw [show chs C ++ [ch ⟨c.labels, true⟩] = chs (C ++ [⟨c.labels, true⟩]) by simp [chs]] at hg2
          have hm5 := (hk4.m o g (by rcases hw.ho with e | e <;> rw [e] <;> decide) (hw4.new 75 _).lt).trans (hw4.new 75 _).hm
          have hw5 := (hw4.new 75 _).setCh hg2 (by decide) hk4 hf4
          (repeat' first
    | refine w_seq ?_ | refine w_rg ?_ | refine wo_nil ?_ | refine g_skU ?_ | refine g_skT ?_ | refine g_skF ?_
    | ((first | apply s_plain | apply s_void | apply s_guard | apply g_goT | apply g_goF); · simp only [go_sem, Nat.reduceEqDiff, Nat.reduceAdd, Nat.reduceLeDiff, f0, hm5, ok2]; (first | done | rfl))
    | ((first | apply g_T | apply g_F | apply g_gT | apply g_gF); · intro q1_; (first | intro q2_ | have q2_ := q1_); simp only [go_sem, Nat.reduceEqDiff, Nat.reduceAdd, Nat.reduceLeDiff, f0, hm5, ok2, q1_, q2_]; (first | done | rfl))
    | (apply w_condX; · simp only [go_sem, Nat.reduceEqDiff, Nat.reduceAdd, Nat.reduceLeDiff, f0, hm5, ok2]; (first | done | rfl)); (first | refine wcd_T ?_ | refine wcd_F ?_)
    | refine w_skip ?_ | refine w_exit ?_ | refine w_ret ?_
    | fail
    )
          try simp only [if_true]
          exact ⟨by simp, by simp only [go_sem, Nat.reduceEqDiff, Nat.reduceAdd, Nat.reduceLeDiff, retOf, resOf], ((((hk2.rx ho3 hc3).rx ho4 hc4).new 75 _).keep hk4 (by decide)).put (.inl ⟨rfl, rfl⟩) _, r2, by rw [← hcs.2]; exact hw5⟩
        · have hcc : ¬ (r.tries ≤ c.tries ∧ r.for_ ≤ now - b.since) := by
            intro ⟨q1, q2⟩
            simp [q1, q2] at hc
          rw [if_neg hcc]
          (repeat' first
    | refine w_seq ?_ | refine w_rg ?_ | refine wo_nil ?_ | refine g_skU ?_ | refine g_skT ?_ | refine g_skF ?_
    | ((first | apply s_plain | apply s_void | apply s_guard | apply g_goT | apply g_goF); · simp only [go_sem, Nat.reduceEqDiff, Nat.reduceAdd, Nat.reduceLeDiff]; (first | done | rfl))
    | ((first | apply g_T | apply g_F | apply g_gT | apply g_gF); · intro q1_; (first | intro q2_ | have q2_ := q1_); simp only [go_sem, Nat.reduceEqDiff, Nat.reduceAdd, Nat.reduceLeDiff, q1_, q2_]; (first | done | rfl))
    | (apply w_condX; · simp only [go_sem, Nat.reduceEqDiff, Nat.reduceAdd, Nat.reduceLeDiff]; (first | done | rfl)); (first | refine wcd_T ?_ | refine wcd_F ?_)
    | refine w_skip ?_ | refine w_exit ?_ | refine w_ret ?_
    | fail
    )
          try simp only [if_true]
          exact ⟨by simp, by simp only [go_sem, Nat.reduceEqDiff, Nat.reduceAdd, Nat.reduceLeDiff, retOf, resOf], hk2.rx ho3 hc3, pC, by rw [List.append_nil]; exact hw3⟩
      · have c0 : (q.state == 0) = false := by simp [s0]
        have c1 : (q.state == 1) = true := by simp [s01.resolve_left s0]
        (repeat' first
    | refine w_seq ?_ | refine w_rg ?_ | refine wo_nil ?_ | refine g_skU ?_ | refine g_skT ?_ | refine g_skF ?_
    | ((first | apply s_plain | apply s_void | apply s_guard | apply g_goT | apply g_goF); · simp only [go_sem, Nat.reduceEqDiff, Nat.reduceAdd, Nat.reduceLeDiff, f9, c3, c0, c1]; (first | done | rfl))
    | ((first | apply g_T | apply g_F | apply g_gT | apply g_gF); · intro q1_; (first | intro q2_ | have q2_ := q1_); simp only [go_sem, Nat.reduceEqDiff, Nat.reduceAdd, Nat.reduceLeDiff, f9, c3, c0, c1, q1_, q2_]; (first | done | rfl))
    | (apply w_condX; · simp only [go_sem, Nat.reduceEqDiff, Nat.reduceAdd, Nat.reduceLeDiff, f9, c3, c0, c1]; (first | done | rfl)); (first | refine wcd_T ?_ | refine wcd_F ?_)
    | refine w_skip ?_ | refine w_exit ?_ | refine w_ret ?_
    | fail
    )
        try simp only [if_true, Nat.reduceEqDiff, if_false]
        rw [if_neg s0] at hb
        have hAb : A.set i b = A := by rw [← hb, ← hq]; exact List.set_getElem_self hi
        refine wos_j (fun fr τ => (fr 0 = .bx o g 3 0 0 ∧ fr 1 = .bx o1 g1 6 i 0 ∧ fr 5 = .bx 2000005 g5 8 0 0 ∧ fr 32 = .bx o1 g1 6 i 0 ∧ fr 33 = .bx o1 g1 6 i 0) ∧ WO τ o g (A.set i b) C now (.ob o1 g1 6 0 A.length) pC ∧ (τ.m o1 g1 = some ⟨6, als (A.set i b), true, true⟩ ∧ τ.m 2000005 g5 = some ⟨8, [rule r], true, true⟩) ∧ Kb o g σ τ)
          ⟨⟨by simp only [go_sem, Nat.reduceEqDiff, Nat.reduceAdd, Nat.reduceLeDiff, f0], by simp only [go_sem, Nat.reduceEqDiff, Nat.reduceAdd, Nat.reduceLeDiff, f1], by simp only [go_sem, Nat.reduceEqDiff, Nat.reduceAdd, Nat.reduceLeDiff, f5], by simp only [go_sem, Nat.reduceEqDiff, Nat.reduceAdd, Nat.reduceLeDiff, f1], by simp only [go_sem, Nat.reduceEqDiff, Nat.reduceAdd, Nat.reduceLeDiff, f1]⟩, by rw [hAb]; exact hw, ⟨by rw [hAb]; exact h1, m5⟩, hk⟩ ?_
        rintro fr2 σ2 ⟨⟨f0, f1, f5, f32, f33⟩, hw2, ⟨h12, m52⟩, hk2⟩
        have hib : i < (A.set i b).length := by rw [List.length_set]; exact hi
        have hxb : (als (A.set i b))[i]? = some (al b) := als_at (by rw [List.getElem?_set_self hi])
        have hl1 : A.length = (A.set i b).length := by rw [List.length_set]
        have w1 : IntKind.i64.wrap (b.tries + 1) = b.tries + 1 := by rw [IntKind.wrap_i64]; omega
        have w2 : IntKind.i64.wrap (now - b.since) = now - b.since := by rw [IntKind.wrap_i64]; omega
        have hxb0 := hxb
        unfold al at hxb
        unfold rule at m52
        (repeat' first
    | refine w_seq ?_ | refine w_rg ?_ | refine wo_nil ?_ | refine g_skU ?_ | refine g_skT ?_ | refine g_skF ?_
    | ((first | apply s_plain | apply s_void | apply s_guard | apply g_goT | apply g_goF); · simp only [go_sem, Nat.reduceEqDiff, Nat.reduceAdd, Nat.reduceLeDiff, f33, f32, h12, hxb, w1, Nat.zero_add]; (first | done | rfl))
    | ((first | apply g_T | apply g_F | apply g_gT | apply g_gF); · intro q1_; (first | intro q2_ | have q2_ := q1_); simp only [go_sem, Nat.reduceEqDiff, Nat.reduceAdd, Nat.reduceLeDiff, f33, f32, h12, hxb, w1, Nat.zero_add, q1_, q2_]; (first | done | rfl))
    | fail
    )
        rw [hl1] at hw2
        refine s_stA hw2 h12 h2 hib (j := 4) (q' := (bump b)) (by simp only [go_sem, Nat.reduceEqDiff, Nat.reduceAdd, Nat.reduceLeDiff]) (by simp only [go_sem, Nat.reduceEqDiff, Nat.reduceAdd, Nat.reduceLeDiff, mnmx, mn1]; rfl) (by decide) (by rw [List.getElem_set_self]; rfl) fun τ3 hw3 h13 ho3 hc3 => ?_
        rw [← hl1, List.set_set] at hw3
        rw [List.set_set] at h13
        have hib3 : i < (A.set i (bump b)).length := by rw [List.length_set]; exact hi
        have hxc : (als (A.set i (bump b)))[i]? = some (al (bump b)) := als_at (by rw [List.getElem?_set_self hi])
        have m53 := (ho3 2000005 g5 (by decide)).trans m52
        have hm3 := hw3.hm
        generalize hcd : bump b = c at hw3 h13 hxc hib3
        have hcs : c.since = b.since ∧ c.labels = q.labels := by rw [← hcd]; exact ⟨rfl, hb1⟩
        have hl3 : A.length = (A.set i c).length := by rw [List.length_set]
        have hxc0 := hxc
        unfold al at hxc
        rw [hcs.1] at hxc
        (repeat' first
    | refine w_seq ?_ | refine w_rg ?_ | refine wo_nil ?_ | refine g_skU ?_ | refine g_skT ?_ | refine g_skF ?_
    | ((first | apply s_plain | apply s_void | apply s_guard | apply g_goT | apply g_goF); · simp only [go_sem, Nat.reduceEqDiff, Nat.reduceAdd, Nat.reduceLeDiff, f0, f1, f5, h13, hxc, m53, hm3, w2, Nat.zero_add]; (first | done | rfl))
    | ((first | apply g_T | apply g_F | apply g_gT | apply g_gF); · intro q1_; (first | intro q2_ | have q2_ := q1_); simp only [go_sem, Nat.reduceEqDiff, Nat.reduceAdd, Nat.reduceLeDiff, f0, f1, f5, h13, hxc, m53, hm3, w2, Nat.zero_add, q1_, q2_]; (first | done | rfl))
    | fail
    )
        rw [show fireT c q.labels r now = if r.tries ≤ c.tries ∧ r.for_ ≤ now - b.since then ({ c with state := 2 }, [⟨q.labels, true⟩]) else (c, []) by unfold fireT; rw [hcs.1]]
        refine w_condB (by simp only [go_sem, Nat.reduceEqDiff, Nat.reduceAdd, Nat.reduceLeDiff]; first | done | rfl) (fun hc => ?_) (fun hc => ?_)
        · have hcc : r.tries ≤ c.tries ∧ r.for_ ≤ now - b.since := by simpa using hc
          rw [if_pos hcc]
          (repeat' first
    | refine w_seq ?_ | refine w_rg ?_ | refine wo_nil ?_ | refine g_skU ?_ | refine g_skT ?_ | refine g_skF ?_
    | ((first | apply s_plain | apply s_void | apply s_guard | apply g_goT | apply g_goF); · simp only [go_sem, Nat.reduceEqDiff, Nat.reduceAdd, Nat.reduceLeDiff, f1]; (first | done | rfl))
    | ((first | apply g_T | apply g_F | apply g_gT | apply g_gF); · intro q1_; (first | intro q2_ | have q2_ := q1_); simp only [go_sem, Nat.reduceEqDiff, Nat.reduceAdd, Nat.reduceLeDiff, f1, q1_, q2_]; (first | done | rfl))
    | fail
    )
          rw [hl3] at hw3
          refine s_stA hw3 h13 h2 hib3 (j := 2) (q' := { c with state := 2 }) (by simp only [go_sem, Nat.reduceEqDiff, Nat.reduceAdd, Nat.reduceLeDiff]) rfl (by decide) (by rw [List.getElem_set_self]; rfl) fun τ4 hw4 h14 ho4 hc4 => ?_
          rw [← hl3, List.set_set] at hw4
          rw [List.set_set] at h14
          have hxd : (als (A.set i { c with state := 2 }))[i]? = some (al { c with state := 2 }) := als_at (by rw [List.getElem?_set_self hi])
          unfold al at hxd
          have hm4 := hw4.hm
          (repeat' first
    | refine w_seq ?_ | refine w_rg ?_ | refine wo_nil ?_ | refine g_skU ?_ | refine g_skT ?_ | refine g_skF ?_
    | ((first | apply s_plain | apply s_void | apply s_guard | apply g_goT | apply g_goF); · simp only [go_sem, Nat.reduceEqDiff, Nat.reduceAdd, Nat.reduceLeDiff, f0, f1, h14, hxd, hm4, Nat.zero_add]; (first | done | rfl))
    | ((first | apply g_T | apply g_F | apply g_gT | apply g_gF); · intro q1_; (first | intro q2_ | have q2_ := q1_); simp only [go_sem, Nat.reduceEqDiff, Nat.reduceAdd, Nat.reduceLeDiff, f0, f1, h14, hxd, hm4, Nat.zero_add, q1_, q2_]; (first | done | rfl))
    | fail
    )
          refine s_gatF (d := 76) (t := 69) (x := .t 75) (os := CX) (es := 2) (by_ := 32) (xs := chs C) (e := ch ⟨c.labels, true⟩) (by simp only [go_sem, Nat.reduceEqDiff, Nat.reduceAdd, Nat.reduceLeDiff]; exact hw4.hc.new _) (hw4.hf.new _ _) (by simp only [go_sem, Nat.reduceEqDiff, Nat.reduceAdd, Nat.reduceLeDiff, srcOf, elemsOf, ch]) rfl rfl (by rw [chs_len]; omega) ?_
          intro r2 τ5 hg2 hk4 hf4
          have ok2 := gat_okW hg2
          rw [show chs C ++ [ch ⟨c.labels, true⟩] = chs (C ++ [⟨c.labels, true⟩]) by simp [chs]] at hg2
          have hm5 := (hk4.m o g (by rcases hw.ho with e | e <;> rw [e] <;> decide) (hw4.new 75 _).lt).trans (hw4.new 75 _).hm
          have hw5 := (hw4.new 75 _).setCh hg2 (by decide) hk4 hf4
          (repeat' first
    | refine w_seq ?_ | refine w_rg ?_ | refine wo_nil ?_ | refine g_skU ?_ | refine g_skT ?_ | refine g_skF ?_
    | ((first | apply s_plain | apply s_void | apply s_guard | apply g_goT | apply g_goF); · simp only [go_sem, Nat.reduceEqDiff, Nat.reduceAdd, Nat.reduceLeDiff, f0, hm5, ok2]; (first | done | rfl))
    | ((first | apply g_T | apply g_F | apply g_gT | apply g_gF); · intro q1_; (first | intro q2_ | have q2_ := q1_); simp only [go_sem, Nat.reduceEqDiff, Nat.reduceAdd, Nat.reduceLeDiff, f0, hm5, ok2, q1_, q2_]; (first | done | rfl))
    | (apply w_condX; · simp only [go_sem, Nat.reduceEqDiff, Nat.reduceAdd, Nat.reduceLeDiff, f0, hm5, ok2]; (first | done | rfl)); (first | refine wcd_T ?_ | refine wcd_F ?_)
    | refine w_skip ?_ | refine w_exit ?_ | refine w_ret ?_
    | fail
    )
          try simp only [if_true]
          exact ⟨by simp, by simp only [go_sem, Nat.reduceEqDiff, Nat.reduceAdd, Nat.reduceLeDiff, retOf, resOf], ((((hk2.rx ho3 hc3).rx ho4 hc4).new 75 _).keep hk4 (by decide)).put (.inl ⟨rfl, rfl⟩) _, r2, by rw [← hcs.2]; exact hw5⟩
        · have hcc : ¬ (r.tries ≤ c.tries ∧ r.for_ ≤ now - b.since) := by
            intro ⟨q1, q2⟩
            simp [q1, q2] at hc
          rw [if_neg hcc]
          (repeat' first
    | refine w_seq ?_ | refine w_rg ?_ | refine wo_nil ?_ | refine g_skU ?_ | refine g_skT ?_ | refine g_skF ?_
    | ((first | apply s_plain | apply s_void | apply s_guard | apply g_goT | apply g_goF); · simp only [go_sem, Nat.reduceEqDiff, Nat.reduceAdd, Nat.reduceLeDiff]; (first | done | rfl))
    | ((first | apply g_T | apply g_F | apply g_gT | apply g_gF); · intro q1_; (first | intro q2_ | have q2_ := q1_); simp only [go_sem, Nat.reduceEqDiff, Nat.reduceAdd, Nat.reduceLeDiff, q1_, q2_]; (first | done | rfl))
    | (apply w_condX; · simp only [go_sem, Nat.reduceEqDiff, Nat.reduceAdd, Nat.reduceLeDiff]; (first | done | rfl)); (first | refine wcd_T ?_ | refine wcd_F ?_)
    | refine w_skip ?_ | refine w_exit ?_ | refine w_ret ?_
    | fail
    )
          try simp only [if_true]
          exact ⟨by simp, by simp only [go_sem, Nat.reduceEqDiff, Nat.reduceAdd, Nat.reduceLeDiff, retOf, resOf], hk2.rx ho3 hc3, pC, by rw [List.append_nil]; exact hw3⟩
    · have hfa : fireA q r now = (q, []) := by unfold fireA; rw [if_neg s3, if_neg s01]
      have hAq : A.set i q = A := by rw [← hq]; exact List.set_getElem_self hi
      rw [hfa, hAq, List.append_nil]
      have c0 : (q.state == 0) = false := by simp at s01 ⊢; exact s01.1
      have c1 : (q.state == 1) = false := by simp at s01 ⊢; exact s01.2
      (repeat' first
    | refine w_seq ?_ | refine w_rg ?_ | refine wo_nil ?_ | refine g_skU ?_ | refine g_skT ?_ | refine g_skF ?_
    | ((first | apply s_plain | apply s_void | apply s_guard | apply g_goT | apply g_goF); · simp only [go_sem, Nat.reduceEqDiff, Nat.reduceAdd, Nat.reduceLeDiff, f9, c3, c0, c1]; (first | done | rfl))
    | ((first | apply g_T | apply g_F | apply g_gT | apply g_gF); · intro q1_; (first | intro q2_ | have q2_ := q1_); simp only [go_sem, Nat.reduceEqDiff, Nat.reduceAdd, Nat.reduceLeDiff, f9, c3, c0, c1, q1_, q2_]; (first | done | rfl))
    | (apply w_condX; · simp only [go_sem, Nat.reduceEqDiff, Nat.reduceAdd, Nat.reduceLeDiff, f9, c3, c0, c1]; (first | done | rfl)); (first | refine wcd_T ?_ | refine wcd_F ?_)
    | refine w_skip ?_ | refine w_exit ?_ | refine w_ret ?_
    | fail
    )
      try simp only [if_true, Nat.reduceEqDiff, if_false]
      exact ⟨by simp, by simp only [go_sem, Nat.reduceEqDiff, Nat.reduceAdd, Nat.reduceLeDiff, retOf, resOf], hk, pC, hw⟩
end

end
section
theorem cbW_zero : ∀ a b : List UInt8, (Lib.compareBytes a b == 0) = decide (a = b)
  | [], [] => rfl
  | [], _ :: _ => by simp [Lib.compareBytes]
  | _ :: _, [] => by simp [Lib.compareBytes]
  | a :: x, b :: y => by
    have ih := cbW_zero x y
    simp only [Lib.compareBytes]
    by_cases h1 : a < b
    · have h3 : a ≠ b := fun h => by rw [h] at h1; exact UInt8.lt_irrefl _ h1
      simp [h1, h3]
    · by_cases h2 : b < a
      · have h3 : a ≠ b := fun h => by rw [h] at h2; exact UInt8.lt_irrefl _ h2
        simp [h1, h2, h3]
      · have h3 : a = b := by
          rw [UInt8.lt_iff_toNat_lt] at h1 h2
          exact UInt8.toNat_inj.1 (by omega)
        subst h3
        simp [UInt8.lt_irrefl, ih]
theorem cmpB_zero (a b : ByteArray) : cmpB a b = 0 ↔ a = b := by
  have h := cbW_zero a.data.toList b.data.toList
  unfold cmpB
  constructor
  · intro e
    rw [e] at h
    have h2 : a.data.toList = b.data.toList := by simpa using h.symm
    exact ByteArray.ext (Array.toList_inj.1 h2)
  · rintro rfl
    simpa using h
theorem cmpB_lt (a b : ByteArray) : cmpB a b < 0 ↔ lessB a b = true := by rw [← cmpB_less]; simp
theorem cmpB_trans {a b c : ByteArray} (h1 : cmpB a b < 0) (h2 : cmpB b c < 0) : cmpB a c < 0 := by
  rw [cmpB_lt] at *
  exact lessB_trans h1 h2
theorem cmpB_tri (a b : ByteArray) : cmpB a b < 0 ∨ a = b ∨ cmpB b a < 0 := by
  by_cases h : a = b
  · exact .inr (.inl h)
  · rw [cmpB_lt, cmpB_lt]
    rcases lessB_total h with h1 | h1
    · exact .inl h1
    · exact .inr (.inr h1)
theorem cmpA_lt (a b : Al) : cmpA a b < 0 ↔ cmpB a.rule b.rule < 0 ∨ (a.rule = b.rule ∧ cmpB (keyT a.labels) (keyT b.labels) < 0) := by
  unfold cmpA
  by_cases h : a.rule = b.rule
  · have h0 := (cmpB_zero a.rule b.rule).2 h
    rw [h0]
    simp [h]
  · have h0 : cmpB a.rule b.rule ≠ 0 := fun e => h ((cmpB_zero _ _).1 e)
    have : (cmpB a.rule b.rule != 0) = true := by simp [h0]
    rw [if_pos this]
    simp [h]
theorem cmpA_zero (a b : Al) : cmpA a b = 0 ↔ a.rule = b.rule ∧ keyT a.labels = keyT b.labels := by
  unfold cmpA
  by_cases h : a.rule = b.rule
  · have h0 := (cmpB_zero a.rule b.rule).2 h
    rw [h0]
    simp [h, cmpB_zero]
  · have h0 : cmpB a.rule b.rule ≠ 0 := fun e => h ((cmpB_zero _ _).1 e)
    have : (cmpB a.rule b.rule != 0) = true := by simp [h0]
    rw [if_pos this]
    simp [h, h0]
theorem cmpA_trans {a b c : Al} (h1 : cmpA a b < 0) (h2 : cmpA b c < 0) : cmpA a c < 0 := by
  rw [cmpA_lt] at *
  rcases h1 with h1 | ⟨e1, h1⟩
  · rcases h2 with h2 | ⟨e2, h2⟩
    · exact .inl (cmpB_trans h1 h2)
    · rw [e2] at h1; exact .inl h1
  · rcases h2 with h2 | ⟨e2, h2⟩
    · rw [← e1] at h2; exact .inl h2
    · exact .inr ⟨e1.trans e2, cmpB_trans h1 h2⟩
theorem cmpA_tri (a b : Al) : cmpA a b < 0 ∨ cmpA a b = 0 ∨ cmpA b a < 0 := by
  rw [cmpA_lt, cmpA_zero, cmpA_lt]
  rcases cmpB_tri a.rule b.rule with h | h | h
  · exact .inl (.inl h)
  · rcases cmpB_tri (keyT a.labels) (keyT b.labels) with h2 | h2 | h2
    · exact .inl (.inr ⟨h, h2⟩)
    · exact .inr (.inl ⟨h, h2⟩)
    · exact .inr (.inr (.inr ⟨h.symm, h2⟩))
  · exact .inr (.inr (.inl h))
theorem cmpA_congr {a b c : Al} (h : cmpA a b = 0) : (cmpA a c < 0 ↔ cmpA b c < 0) ∧ (cmpA c a < 0 ↔ cmpA c b < 0) ∧ (cmpA a c = 0 ↔ cmpA b c = 0) := by
  obtain ⟨e1, e2⟩ := (cmpA_zero a b).1 h
  simp only [cmpA_lt, cmpA_zero, e1, e2, and_self]
def SrtA : List Al → Prop
  | [] => True
  | a :: l => (∀ b ∈ l, cmpA a b < 0) ∧ SrtA l
def posA : List Al → Al → Nat
  | [], _ => 0
  | a :: l, t => if cmpA a t < 0 then posA l t + 1 else 0
theorem pos_le : ∀ (A : List Al) (t : Al), posA A t ≤ A.length
  | [], _ => Nat.le_refl _
  | a :: l, t => by
    have := pos_le l t
    unfold posA
    split <;> simp <;> omega
theorem pos_lo : ∀ {A : List Al} {t : Al} {i : Nat} (h : i < A.length), i < posA A t → cmpA A[i] t < 0
  | [], t, i, h, _ => by simp at h
  | a :: l, t, 0, h, hp => by
    unfold posA at hp
    split at hp
    · rename_i hc; exact hc
    · omega
  | a :: l, t, i + 1, h, hp => by
    unfold posA at hp
    split at hp
    · exact pos_lo (A := l) (by simpa using h) (by omega)
    · omega
theorem pos_hi : ∀ {A : List Al} {t : Al} {i : Nat} (_ : SrtA A) (h : i < A.length), posA A t ≤ i → ¬ cmpA A[i] t < 0
  | [], t, i, _, h, _ => by simp at h
  | a :: l, t, 0, hs, h, hp => by
    unfold posA at hp
    split at hp
    · omega
    · rename_i hc; exact hc
  | a :: l, t, i + 1, hs, h, hp => by
    have hl : i < l.length := by simpa using h
    unfold posA at hp
    split at hp
    · exact pos_hi (A := l) hs.2 hl (by omega)
    · rename_i hc
      intro h2
      exact hc (cmpA_trans (hs.1 _ (List.getElem_mem hl)) h2)
theorem srt_of : ∀ {A : List Al}, (∀ i, (h : i + 1 < A.length) → cmpA A[i] A[i + 1] < 0) → SrtA A
  | [], _ => trivial
  | [a], _ => ⟨by simp, trivial⟩
  | a :: b :: l, h => by
    have ih : SrtA (b :: l) := srt_of fun i hi => h (i + 1) (by simpa using hi)
    have h0 : cmpA a b < 0 := by simpa using h 0 (by simp)
    refine ⟨fun c hc => ?_, ih⟩
    rcases List.mem_cons.1 hc with rfl | hc
    · exact h0
    · exact cmpA_trans h0 (ih.1 c hc)
def hasA (A : List Al) (t : Al) : Bool := decide (posA A t < A.length) && (cmpA (nthA A (posA A t)) t == 0)
def freshA (r : Rule) (ls : List Lab) : Al := ⟨r.name, ls, 0, 0, 0, 0⟩
def endA (a : Al) (now : Int) : Al := if a.state = 2 then { a with state := 3, ended := now } else a
def delA (A : List Al) (i : Nat) : List Al := A.take i ++ A.drop (i + 1)
def insA (A : List Al) (i : Nat) (a : Al) : List Al := A.take i ++ a :: A.drop i
def ruleW (A : List Al) (C : List Ch) (r : Rule) (ls : List Lab) (v now : Int) : List Al × List Ch :=
  if (rightR r && firesB r.how v r.limit) = true then
    if hasA A (freshA r ls) = true then (A.set (posA A (freshA r ls)) (fireA (nthA A (posA A (freshA r ls))) r now).1, C ++ (fireA (nthA A (posA A (freshA r ls))) r now).2)
    else ((insA A (posA A (freshA r ls)) (freshA r ls)).set (posA A (freshA r ls)) (fireA (freshA r ls) r now).1, C ++ (fireA (freshA r ls) r now).2)
  else if hasA A (freshA r ls) = true then
    if (nthA A (posA A (freshA r ls))).state = 1 then (delA A (posA A (freshA r ls)), C)
    else if overB (endA (nthA A (posA A (freshA r ls))) now) r now = true then (delA A (posA A (freshA r ls)), C ++ [⟨(nthA A (posA A (freshA r ls))).labels, false⟩])
    else (A.set (posA A (freshA r ls)) (endA (nthA A (posA A (freshA r ls))) now), C)
  else (A, C)

end
section
attribute [local go_sem ↓] e_mv e_pick e_bin e_eqs e_beq e_un e_cvi e_str e_s2b e_b2s e_box e_build e_bsl e_ld e_st e_nck e_mkf e_slcS e_slcL e_fa e_fld e_ia e_iaa e_ix e_ixa e_ext e_lenS e_lenL e_mnmx e_app e_appb e_bbx e_msl e_clr e_call e_callv e_icall e_slcA e_mkm e_mput e_mget e_mlen e_mdel pa_t pa_c pa_f slcSP_str hiOf_some hiOf_none loOf_some loOf_none set_eq set_ne
attribute [local go_sem] pv pv1 simple frOf_0 frOf_1 frOf_2 frOf_3 frOf_4 frOf_5 ne_eq not_false_eq_true if_true Bool.false_eq_true if_false pbin punary Option.map_some Option.bind_some pick_and pick_or opt_true Bool.true_and Bool.and_self Bool.and_true Bool.true_or Bool.false_or Bool.not_true Bool.not_false callE pcall_eq List.map_cons List.map_nil List.append_nil List.nil_append List.cons_append mapM_cons' mapM_nil' dep_eq fz_sc fz_sl fz_em fz_fn fz_fp fz_agg fz_tu fz_bx fz_ob Nat.lt_irrefl Nat.zero_lt_one Nat.lt_add_one flat clL cl Bool.or_true okc_sc okc_em okc_sl okc_ob okc_bx okc_fp okc_fn okc_agg okc_ifc cells_agg cells_sc cells_sl cells_em cells_ob cells_fn cells_bx cells_fp List.length_cons List.length_nil Nat.zero_add and_self true_and and_true new_m new_c put_m put_c nil_m nil_c nil_mm new_mm put_mm newM_m newM_c newM_mm putM_m putM_c putM_mm mkeyV_1 mkeyV_2 mapAt_eq deref List.getElem?_cons_zero List.getElem?_cons_succ List.drop_zero List.drop_succ_cons List.take_succ_cons List.take_zero Nat.le_refl false_and and_false decide_true decide_false lenP_em lenP_nil lenP_sl lenP_ob Int.ofNat_zero splice fillP fillE List.modify_zero_cons List.replicate_succ List.replicate_zero List.set_cons_zero List.drop_zero ba_data ba_size ba_toList ba_extract ba_append List.toList_toArray
def d373 : Def := (.code 4 [] (.seq (.rg false [⟨.some 5, .none, .box (.t 1)⟩]) (.seq (.rg false [⟨.some 13, .none, .fa 0 (.t 5)⟩, ⟨.some 14, .none, .ld .none (.t 13)⟩, ⟨.some 15, .none, .mv (.t 2)⟩, ⟨.some 16, .none, .build (.agg #[.string ⟨#[]⟩, .slice .none 0 0, .int .i64 0, .int .i64 0, .int .i64 0, .int .i64 0]) [(0, (1, .t 14)), (1, (1, .t 15))]⟩, ⟨.some 8, .none, .box (.c (.agg #[.string ⟨#[]⟩, .slice .none 0 0, .int .i64 0, .int .i64 0, .int .i64 0, .int .i64 0]))⟩, ⟨.none, .none, .st 6 (.t 8) (.t 16)⟩]) (.seq (.rg true [⟨.some 18, .none, .mv (.t 0)⟩, ⟨.some 19, .none, .nck (.t 18)⟩, ⟨.some 20, .none, .fa 0 (.t 19)⟩, ⟨.some 21, .none, .ld .none (.t 20)⟩, ⟨.some 22, .none, .ld (.some 6) (.t 8)⟩, ⟨.some 23, .none, .call 388 .strict [.t 21, .t 22, .f 369]⟩, ⟨.some 17, .none, .mv (.t 23)⟩, ⟨.some 24, .none, .ext (.t 17) 0⟩, ⟨.some 25, .none, .ext (.t 17) 1⟩, ⟨.some 9, .none, .mv (.t 24)⟩, ⟨.some 10, .none, .mv (.t 25)⟩]) (.seq (.rg false [⟨.some 26, .none, .ld (.some 8) (.t 5)⟩, ⟨.some 27, .none, .mv (.t 3)⟩, ⟨.some 28, .none, .call 107 .pure [.t 26, .t 27]⟩, ⟨.some 11, .none, .mv (.t 28)⟩]) (.seq (.block 0 (.seq (.block 5 (.seq (.block 4 (.seq (.block 3 (.seq (.block 2 (.seq (.block 1 (.seq (.seq (.seq (.rg false [⟨.some 30, .none, .mv (.t 11)⟩, ⟨.some 31, .none, .mv (.t 30)⟩, ⟨.some 32, .some (31, true), .mv (.t 10)⟩, ⟨.some 33, .some (31, true), .un .not (.t 32)⟩, ⟨.some 34, .none, .pick (.t 31) (.t 33) (.c (.bool false))⟩, ⟨.some 29, .none, .mv (.t 34)⟩]) (.cond (.t 29) (.exit 1) .skip)) (.seq (.seq (.rg false [⟨.some 36, .none, .mv (.t 11)⟩, ⟨.some 35, .none, .mv (.t 36)⟩]) (.cond (.t 35) (.exit 2) .skip)) (.seq (.seq (.rg false [⟨.some 38, .none, .mv (.t 10)⟩, ⟨.some 39, .none, .un .not (.t 38)⟩, ⟨.some 37, .none, .mv (.t 39)⟩]) (.cond (.t 37) (.exit 3) .skip)) (.seq (.seq (.rg false [⟨.some 41, .none, .mv (.t 0)⟩, ⟨.some 42, .none, .nck (.t 41)⟩, ⟨.some 43, .none, .fa 0 (.t 42)⟩, ⟨.some 44, .none, .ld .none (.t 43)⟩, ⟨.some 45, .none, .mv (.t 9)⟩, ⟨.some 46, .none, .ia 6 (.t 44) (.t 45)⟩, ⟨.some 47, .none, .fa 2 (.t 46)⟩, ⟨.some 48, .none, .ld .none (.t 47)⟩, ⟨.some 49, .none, .bin .eql (.t 48) (.c (.int .i64 1))⟩, ⟨.some 40, .none, .mv (.t 49)⟩]) (.cond (.t 40) (.exit 4) .skip)) (.seq (.rg false [⟨.some 51, .none, .mv (.t 0)⟩, ⟨.some 52, .none, .nck (.t 51)⟩, ⟨.some 53, .none, .fa 0 (.t 52)⟩, ⟨.some 54, .none, .ld .none (.t 53)⟩, ⟨.some 55, .none, .mv (.t 9)⟩, ⟨.some 56, .none, .ia 6 (.t 54) (.t 55)⟩, ⟨.some 57, .none, .fa 2 (.t 56)⟩, ⟨.some 58, .none, .ld .none (.t 57)⟩, ⟨.some 59, .none, .bin .eql (.t 58) (.c (.int .i64 2))⟩, ⟨.some 50, .none, .mv (.t 59)⟩]) (.cond (.t 50) (.exit 5) .skip)))))) (.exit 0))) (.rg true [⟨.some 60, .none, .mv (.t 0)⟩, ⟨.some 61, .none, .mv (.t 0)⟩, ⟨.some 62, .none, .nck (.t 61)⟩, ⟨.some 63, .none, .fa 0 (.t 62)⟩, ⟨.some 64, .none, .ld .none (.t 63)⟩, ⟨.some 65, .none, .mv (.t 9)⟩, ⟨.some 66, .none, .ld (.some 6) (.t 8)⟩, ⟨.some 67, .none, .bsl 6 (.agg #[.string ⟨#[]⟩, .slice .none 0 0, .int .i64 0, .int .i64 0, .int .i64 0, .int .i64 0]) 1 [(0, .t 66)]⟩, ⟨.some 68, .none, .call 389 .opn [.t 64, .t 65, .t 67]⟩, ⟨.some 69, .none, .nck (.t 60)⟩, ⟨.some 70, .none, .fa 0 (.t 69)⟩, ⟨.none, .none, .st 1 (.t 70) (.t 68)⟩]))) (.seq (.seq (.rg false [⟨.some 12, .none, .mv (.f 390)⟩]) (.seq (.rg true [⟨.some 71, .none, .mv (.t 12)⟩, ⟨.some 72, .none, .mv (.t 0)⟩, ⟨.some 73, .none, .mv (.t 0)⟩, ⟨.some 74, .none, .nck (.t 73)⟩, ⟨.some 75, .none, .fa 0 (.t 74)⟩, ⟨.some 76, .none, .ld .none (.t 75)⟩, ⟨.some 77, .none, .mv (.t 9)⟩, ⟨.some 78, .none, .ia 6 (.t 76) (.t 77)⟩, ⟨.some 79, .none, .ld (.some 8) (.t 5)⟩, ⟨.some 80, .none, .callv (.t 71) .opn [.t 72, .t 78, .t 79]⟩]) .ret)) (.exit 0)))) (.seq .ret (.exit 0)))) (.seq (.seq (.rg false [⟨.some 81, .none, .mv (.t 0)⟩, ⟨.some 82, .none, .mv (.t 0)⟩, ⟨.some 83, .none, .nck (.t 82)⟩, ⟨.some 84, .none, .fa 0 (.t 83)⟩, ⟨.some 85, .none, .ld .none (.t 84)⟩, ⟨.some 86, .none, .mv (.t 9)⟩, ⟨.some 87, .none, .mv (.t 9)⟩, ⟨.some 88, .none, .bin .add (.t 87) (.c (.int .i64 1))⟩, ⟨.some 89, .none, .call 391 .opn [.t 85, .t 86, .t 88]⟩, ⟨.some 90, .none, .nck (.t 81)⟩, ⟨.some 91, .none, .fa 0 (.t 90)⟩, ⟨.none, .none, .st 1 (.t 91) (.t 89)⟩]) .ret) (.exit 0)))) (.seq (.rg true [⟨.some 92, .none, .mv (.t 0)⟩, ⟨.some 93, .none, .nck (.t 92)⟩, ⟨.some 94, .none, .fa 0 (.t 93)⟩, ⟨.some 95, .none, .ld .none (.t 94)⟩, ⟨.some 96, .none, .mv (.t 9)⟩, ⟨.some 97, .none, .mv (.t 0)⟩, ⟨.some 98, .none, .nck (.t 97)⟩, ⟨.some 99, .none, .fa 0 (.t 98)⟩, ⟨.some 100, .none, .ld .none (.t 99)⟩, ⟨.some 101, .none, .mv (.t 9)⟩, ⟨.some 102, .none, .mv (.t 0)⟩, ⟨.some 103, .none, .nck (.t 102)⟩, ⟨.some 104, .none, .fa 2 (.t 103)⟩, ⟨.some 105, .none, .ld .none (.t 104)⟩, ⟨.some 106, .none, .ia 6 (.t 95) (.t 96)⟩, ⟨.some 107, .none, .fa 2 (.t 106)⟩, ⟨.none, .none, .st 1 (.t 107) (.c (.int .i64 3))⟩, ⟨.some 108, .none, .ia 6 (.t 100) (.t 101)⟩, ⟨.some 109, .none, .fa 5 (.t 108)⟩, ⟨.none, .none, .st 1 (.t 109) (.t 105)⟩]) (.exit 0)))) (.rg false [⟨.some 110, .none, .mv (.t 0)⟩, ⟨.some 111, .none, .mv (.t 9)⟩, ⟨.some 112, .none, .ld (.some 8) (.t 5)⟩, ⟨.some 113, .none, .call 375 .opn [.t 110, .t 111, .t 112]⟩])))))))
def lwd : List (Nat × Def) := [(373, d373)]
section
variable {env : Nat → Option Def} {fr : Fr} {σ σ' σ'' : St} {K : Fr → St → Prop} {Q : X → Fr → St → Prop} {p : PV} {bs : List UInt8}
theorem s_callvO {d tf f : Nat} {args : List PA} {r : PV} {τ : St} {ops : List POp} (hf : fr tf = .fn f [] []) (h : EV env f (args.map (pa fr)) σ = some (r, τ)) (h2 : Wos env ops K (fr.set d r) τ) : Wos env (⟨some d, none, .callv (.t tf) .opn args⟩ :: ops) K fr σ :=
  s_plain (by simp only [evO, pa_t, hf, List.nil_append, List.append_nil]; exact h) h2
theorem als_fz (σ : St) (d : Nat) (l : List Al) : (als l).mapM (fz σ (d + 2)) = some (als l) := by
  induction l with
  | nil => rfl
  | cons a r ih =>
    show List.mapM (fz σ (d + 2)) (al a :: als r) = _
    rw [mapM_cons', ih]
    rfl
theorem a388 (B : Wb env) (W : Has lwa env) (V : Has lwc env) {A : List Al} {t : Al} (hs : SrtA A) (hA : ∀ a ∈ A, a.Fits) (ht : t.Fits) (hn : A.length ≤ 1000) :
    AV env 388 [.sl (als A), al t, .fn 369 [] []] = some (.tu [.sc (.int .i64 ((posA A t : Nat) : Int)), .sc (.bool (hasA A t))]) := by
  have h := bsB_g (env := env) (k0 := 388) (es := 6) (ts := 6) (by rw [← d388_eq]; exact V (388, d388) (by simp [lwc])) (xs := als A) (tc := cellsOf (al t)) rfl (k := 369) (i0 := posA A t) (a := []) (b := []) (c := fun i => cmpA (nthA A i) t) (by rw [als_len]; omega) (als_agg A)
    (fun i e h σ => by obtain ⟨x, _, rfl, _⟩ := als_get h; rfl)
    (fun i e h => by
      obtain ⟨x, hx, rfl, hg⟩ := als_get h
      have := a369 B W (hA x (List.mem_of_getElem? hx)) ht
      rw [hg]
      exact this) (by rw [als_len]; exact pos_le A t)
    (fun i hi => by have := pos_le A t; rw [nthA_eq (by omega)]; exact pos_lo (by omega) hi)
    (fun i hi hl => by rw [als_len] at hl; rw [nthA_eq hl]; exact pos_hi hs hl hi)
  rw [als_len] at h
  exact h
structure Al.Tm (a : Al) : Prop where
  s : timeB a.since = true
  e : timeB a.ended = true
  t : 0 ≤ a.tries ∧ a.tries ≤ 10
theorem fresh_tm (r : Rule) (ls : List Lab) : (freshA r ls).Tm := ⟨rfl, rfl, ⟨Int.le_refl 0, by show (0 : Int) ≤ 10; decide⟩⟩
theorem end_tm {a : Al} {now : Int} (h : a.Tm) (hn : timeB now = true) : (endA a now).Tm := by
  unfold endA
  split
  · exact ⟨h.s, hn, h.t⟩
  · exact h
theorem a373 (B : Wb env) (W : Has lwa env) (V : Has lwc env) (D : Has lwd env) {o g : Nat} {A : List Al} {C : List Ch} {now v : Int} {pA pC : PV} {r : Rule} {ls : List Lab} (hw : WO σ o g A C now pA pC) (hs : SrtA A) (hA : ∀ a ∈ A, a.Fits) (hT : ∀ a ∈ A, a.Tm) (hlen : A.length ≤ 999) (hcl : C.length ≤ 99999) (hn : timeB now = true)
    (hr : r.Fits) (hf : (freshA r ls).Fits) :
    ∃ σ', EV env 373 [.bx o g 3 0 0, rule r, .sl (labs ls), .sc (.int .i64 v)] σ = some (.tu [], σ') ∧ Kb o g σ σ' ∧
      ∃ pA' pC', WO σ' o g (ruleW A C r ls v now).1 (ruleW A C r ls v now).2 now pA' pC' := by
  have h388 := a388 B W V hs hA hf (by omega)
  have h107 := a107 B.la B.lc B.lf B.lg hr v
  have hal := als_len A
  have hfr : al (freshA r ls) = .agg [.sc (.string r.name), .sl (labs ls), .sc (.int .i64 0), .sc (.int .i64 0), .sc (.int .i64 0), .sc (.int .i64 0)] := rfl
  rw [hfr] at h388
  have hpl := pos_le A (freshA r ls)
  have hhas : hasA A (freshA r ls) = true → posA A (freshA r ls) < A.length := fun h => by
    unfold hasA at h
    simp only [Bool.and_eq_true, decide_eq_true_eq] at h
    exact h.1
  obtain ⟨RA, RC, hres⟩ : ∃ RA RC, ruleW A C r ls v now = (RA, RC) := ⟨_, _, rfl⟩
  rw [hres]
  unfold ruleW at hres
  generalize hi : posA A (freshA r ls) = i at h388 hpl hhas hres
  generalize hb : hasA A (freshA r ls) = b at h388 hhas hres
  generalize ho : (rightR r && firesB r.how v r.limit) = on at h107 hres
  refine EV_wpR (D (373, d373) (by simp [lwd])) rfl ?_
  unfold rule at h107 ⊢
  (repeat' first
    | refine w_seq ?_ | refine w_rg ?_ | refine wo_nil ?_ | refine g_skU ?_ | refine g_skT ?_ | refine g_skF ?_
    | ((first | apply s_plain | apply s_void | apply s_guard | apply g_goT | apply g_goF); · simp only [go_sem, Nat.reduceEqDiff, Nat.reduceAdd, Nat.reduceLeDiff]; (first | done | rfl))
    | ((first | apply g_T | apply g_F | apply g_gT | apply g_gF); · intro q1_; (first | intro q2_ | have q2_ := q1_); simp only [go_sem, Nat.reduceEqDiff, Nat.reduceAdd, Nat.reduceLeDiff, q1_, q2_]; (first | done | rfl))
    | fail
    )
  refine wos_j (fun fr τ => ∃ g5 g8, (fr 0 = .bx o g 3 0 0 ∧ fr 2 = .sl (labs ls) ∧ fr 3 = .sc (.int .i64 v) ∧ fr 5 = .bx 2000005 g5 8 0 0 ∧ fr 8 = .bx 2000008 g8 6 0 0 ∧ fr 20 = .bx o g 3 0 0) ∧ WO τ o g A C now pA pC ∧ (τ.m 2000005 g5 = some ⟨8, [rule r], true, true⟩ ∧ τ.m 2000008 g8 = some ⟨6, [al (freshA r ls)], true, true⟩) ∧ Kb o g σ τ)
    ⟨σ.c 2000005, σ.c 2000008, ⟨by simp only [go_sem, Nat.reduceEqDiff, Nat.reduceAdd, Nat.reduceLeDiff], by simp only [go_sem, Nat.reduceEqDiff, Nat.reduceAdd, Nat.reduceLeDiff], by simp only [go_sem, Nat.reduceEqDiff, Nat.reduceAdd, Nat.reduceLeDiff], by simp only [go_sem, Nat.reduceEqDiff, Nat.reduceAdd, Nat.reduceLeDiff], by simp only [go_sem, Nat.reduceEqDiff, Nat.reduceAdd, Nat.reduceLeDiff], by simp only [go_sem, Nat.reduceEqDiff, Nat.reduceAdd, Nat.reduceLeDiff]⟩, ((hw.new _ _).new _ _).put (by simp only [go_sem, Nat.reduceEqDiff, Nat.reduceAdd, Nat.reduceLeDiff]; rfl) (by rcases hw.ho with e | e <;> rw [e] <;> decide) _, ⟨by simp only [go_sem, Nat.reduceEqDiff, Nat.reduceAdd, Nat.reduceLeDiff, rule], by simp only [go_sem, Nat.reduceEqDiff, Nat.reduceAdd, Nat.reduceLeDiff, hfr]⟩, ((Kb.refl.new _ _).new _ _).put (.inr (.inl (by simp only [go_sem, Nat.reduceEqDiff, Nat.reduceAdd, Nat.reduceLeDiff]; first | done | exact Nat.le_refl _))) _⟩ ?_
  have hwσ := hw
  clear hw hwσ
  rintro fr1 σ1 ⟨g5, g8, ⟨f0, f2, f3, f5, f8, f20⟩, hw, ⟨m5, m8⟩, hk⟩
  have hm := hw.hm
  have hz := hw.ha.fz (d := 11) (als_fz σ1 9 A)
  rw [hfr] at m8
  unfold rule at m5
  (repeat' first
    | refine w_seq ?_ | refine w_rg ?_ | refine wo_nil ?_ | refine g_skU ?_ | refine g_skT ?_ | refine g_skF ?_
    | ((first | apply s_plain | apply s_void | apply s_guard | apply g_goT | apply g_goF); · simp only [go_sem, Nat.reduceEqDiff, Nat.reduceAdd, Nat.reduceLeDiff, f0, f3, f5, f8, f20, hm, hz, m5, m8, h388, h107]; (first | done | rfl))
    | ((first | apply g_T | apply g_F | apply g_gT | apply g_gF); · intro q1_; (first | intro q2_ | have q2_ := q1_); simp only [go_sem, Nat.reduceEqDiff, Nat.reduceAdd, Nat.reduceLeDiff, f0, f3, f5, f8, f20, hm, hz, m5, m8, h388, h107, q1_, q2_]; (first | done | rfl))
    | fail
    )
  refine w_j (fun fr τ => (fr 0 = .bx o g 3 0 0 ∧ fr 2 = .sl (labs ls) ∧ fr 5 = .bx 2000005 g5 8 0 0 ∧ fr 8 = .bx 2000008 g8 6 0 0 ∧ fr 9 = .sc (.int .i64 (i : Int)) ∧ fr 10 = .sc (.bool b) ∧ fr 11 = .sc (.bool on)) ∧ WO τ o g A C now pA pC ∧ (τ.m 2000005 g5 = some ⟨8, [rule r], true, true⟩ ∧ τ.m 2000008 g8 = some ⟨6, [al (freshA r ls)], true, true⟩) ∧ Kb o g σ τ)
    ⟨⟨by simp only [go_sem, Nat.reduceEqDiff, Nat.reduceAdd, Nat.reduceLeDiff, f0], by simp only [go_sem, Nat.reduceEqDiff, Nat.reduceAdd, Nat.reduceLeDiff, f2], by simp only [go_sem, Nat.reduceEqDiff, Nat.reduceAdd, Nat.reduceLeDiff, f5], by simp only [go_sem, Nat.reduceEqDiff, Nat.reduceAdd, Nat.reduceLeDiff, f8], by simp only [go_sem, Nat.reduceEqDiff, Nat.reduceAdd, Nat.reduceLeDiff], by simp only [go_sem, Nat.reduceEqDiff, Nat.reduceAdd, Nat.reduceLeDiff], by simp only [go_sem, Nat.reduceEqDiff, Nat.reduceAdd, Nat.reduceLeDiff]⟩, hw, ⟨m5, m8⟩, hk⟩ ?_
  clear f0 f2 f3 f5 f8 f20 hw m5 m8 hk hm hz
  clear fr1 σ1
  rintro fr1 σ1 ⟨⟨f0, f2, f5, f8, f9, f10, f11⟩, hw, ⟨m5, m8⟩, hk⟩
  cases on with
  | true =>
    refine x_to (x := .ret) (J := fun fr τ => Kb o g σ τ ∧ ∃ pA' pC', WO τ o g RA RC now pA' pC') ?_ (fun fr τ h => ⟨.inr rfl, by simp only [go_sem, Nat.reduceEqDiff, Nat.reduceAdd, Nat.reduceLeDiff, retOf, resOf], h⟩)
    refine x_blkR (x_seqE (by simp) (x_blkR (x_seqE (by simp) (x_blkR (x_seqE (by simp) (x_blkR (x_seqN (P := fun fr τ => ∃ A1 a1 pA1, (A1[i]? = some a1 ∧ a1.Tm ∧ RA = A1.set i (fireA a1 r now).1 ∧ RC = C ++ (fireA a1 r now).2) ∧ (fr 0 = .bx o g 3 0 0 ∧ fr 5 = .bx 2000005 g5 8 0 0 ∧ fr 9 = .sc (.int .i64 (i : Int))) ∧ WO τ o g A1 C now pA1 pC ∧ τ.m 2000005 g5 = some ⟨8, [rule r], true, true⟩ ∧ Kb o g σ τ) ?_ ?_)))))))
    · cases b with
      | true =>
        simp only [if_true, Prod.mk.injEq] at hres
        have hil := hhas rfl
        have hx := List.getElem?_eq_getElem hil
        rw [nthA_eq hil] at hres
        refine x_blkH (x_seqE (by simp) (x_blkM (by decide) ?_))
        (repeat' first
    | refine w_seq ?_ | refine w_rg ?_ | refine wo_nil ?_ | refine g_skU ?_ | refine g_skT ?_ | refine g_skF ?_
    | ((first | apply s_plain | apply s_void | apply s_guard | apply g_goT | apply g_goF); · simp only [go_sem, Nat.reduceEqDiff, Nat.reduceAdd, Nat.reduceLeDiff, f10, f11]; (first | done | rfl))
    | ((first | apply g_T | apply g_F | apply g_gT | apply g_gF); · intro q1_; (first | intro q2_ | have q2_ := q1_); simp only [go_sem, Nat.reduceEqDiff, Nat.reduceAdd, Nat.reduceLeDiff, f10, f11, q1_, q2_]; (first | done | rfl))
    | (apply w_condX; · simp only [go_sem, Nat.reduceEqDiff, Nat.reduceAdd, Nat.reduceLeDiff, f10, f11]; (first | done | rfl)); (first | refine wcd_T ?_ | refine wcd_F ?_)
    | refine w_skip ?_ | refine w_exit ?_ | refine w_ret ?_
    | fail
    )
        exact ⟨rfl, A, A[i], pA, ⟨hx, hT _ (List.getElem_mem hil), hres.1.symm, hres.2.symm⟩, ⟨by simp only [go_sem, Nat.reduceEqDiff, Nat.reduceAdd, Nat.reduceLeDiff, f0], by simp only [go_sem, Nat.reduceEqDiff, Nat.reduceAdd, Nat.reduceLeDiff, f5], by simp only [go_sem, Nat.reduceEqDiff, Nat.reduceAdd, Nat.reduceLeDiff, f9]⟩, hw, m5, hk⟩
      | false =>
        simp only [if_true, Bool.false_eq_true, if_false, Prod.mk.injEq] at hres
        refine x_blkN (x_seqN (P := fun fr τ => (fr 0 = .bx o g 3 0 0 ∧ fr 5 = .bx 2000005 g5 8 0 0 ∧ fr 8 = .bx 2000008 g8 6 0 0 ∧ fr 9 = .sc (.int .i64 (i : Int))) ∧ τ = σ1) (x_blkH ?_) ?_)
        · (repeat' first
    | refine w_seq ?_ | refine w_rg ?_ | refine wo_nil ?_ | refine g_skU ?_ | refine g_skT ?_ | refine g_skF ?_
    | ((first | apply s_plain | apply s_void | apply s_guard | apply g_goT | apply g_goF); · simp only [go_sem, Nat.reduceEqDiff, Nat.reduceAdd, Nat.reduceLeDiff, f10, f11]; (first | done | rfl))
    | ((first | apply g_T | apply g_F | apply g_gT | apply g_gF); · intro q1_; (first | intro q2_ | have q2_ := q1_); simp only [go_sem, Nat.reduceEqDiff, Nat.reduceAdd, Nat.reduceLeDiff, f10, f11, q1_, q2_]; (first | done | rfl))
    | (apply w_condX; · simp only [go_sem, Nat.reduceEqDiff, Nat.reduceAdd, Nat.reduceLeDiff, f10, f11]; (first | done | rfl)); (first | refine wcd_T ?_ | refine wcd_F ?_)
    | refine w_skip ?_ | refine w_exit ?_ | refine w_ret ?_
    | fail
    )
          exact ⟨rfl, ⟨by simp only [go_sem, Nat.reduceEqDiff, Nat.reduceAdd, Nat.reduceLeDiff, f0], by simp only [go_sem, Nat.reduceEqDiff, Nat.reduceAdd, Nat.reduceLeDiff, f5], by simp only [go_sem, Nat.reduceEqDiff, Nat.reduceAdd, Nat.reduceLeDiff, f8], by simp only [go_sem, Nat.reduceEqDiff, Nat.reduceAdd, Nat.reduceLeDiff, f9]⟩, rfl⟩
        · clear f0 f2 f5 f8 f9 f10 f11
          rintro fr2 τ ⟨⟨f0, f5, f8, f9⟩, rfl⟩
          have hm := hw.hm
          rw [hfr] at m8
          (repeat' first
    | refine w_seq ?_ | refine w_rg ?_ | refine wo_nil ?_ | refine g_skU ?_ | refine g_skT ?_ | refine g_skF ?_
    | ((first | apply s_plain | apply s_void | apply s_guard | apply g_goT | apply g_goF); · simp only [go_sem, Nat.reduceEqDiff, Nat.reduceAdd, Nat.reduceLeDiff, f0, f8, f9, hm, m8]; (first | done | rfl))
    | ((first | apply g_T | apply g_F | apply g_gT | apply g_gF); · intro q1_; (first | intro q2_ | have q2_ := q1_); simp only [go_sem, Nat.reduceEqDiff, Nat.reduceAdd, Nat.reduceLeDiff, f0, f8, f9, hm, m8, q1_, q2_]; (first | done | rfl))
    | fail
    )
          refine s_ins (V (389, .prim (insF 6 72)) (by simp [lwc])) (i := i) (xs := als A) (e := al (freshA r ls)) (by simp only [go_sem, Nat.reduceEqDiff, Nat.reduceAdd, Nat.reduceLeDiff]) (by simp only [go_sem, Nat.reduceEqDiff, Nat.reduceAdd, Nat.reduceLeDiff]; first | done | rfl) (by simp only [go_sem, Nat.reduceEqDiff, Nat.reduceAdd, Nat.reduceLeDiff]; first | done | rfl) (hw.new _ _).ha (by rw [hal]; exact hpl) (by simp only [go_sem, Nat.reduceEqDiff, Nat.reduceAdd, Nat.reduceLeDiff, hfr]) (by decide) rfl rfl (by rw [hal]; omega) (hw.hf.new _ _) fun r1 τ1 q1 q2 q3 => ?_
          have hm1 := (q2.m o g (by rcases hw.ho with e | e <;> rw [e] <;> decide) (hw.new _ _).lt).trans (hw.new _ _).hm
          have ok1 := q1.ok
          have htk : (als A).take i ++ al (freshA r ls) :: (als A).drop i = als (insA A i (freshA r ls)) := by simp [als, insA, List.map_take, List.map_drop]
          rw [htk] at q1
          have hw2 := (hw.new _ _).setRow q1 q2 q3
          have hc5 : g5 < τ.c 2000005 := hw.hf _ _ (by rw [m5]; rfl)
          have m52 := (q2.m 2000005 g5 (by decide) (by simp only [go_sem, Nat.reduceEqDiff, Nat.reduceAdd, Nat.reduceLeDiff]; exact hc5)).trans (by simp only [go_sem, Nat.reduceEqDiff, Nat.reduceAdd, Nat.reduceLeDiff, m5]; rfl)
          have hk2 := ((hk.new _ _).keep q2 (by decide)).put (s := o) (k := g) (.inl ⟨rfl, rfl⟩) (some ⟨3, [.agg [r1, pC, .sc (.int .i64 now)]], true, true⟩)
          have hoR : (2000005 = o) = False := eq_false (by rcases hw.ho with e | e <;> rw [e] <;> decide)
          (repeat' first
    | refine w_seq ?_ | refine w_rg ?_ | refine wo_nil ?_ | refine g_skU ?_ | refine g_skT ?_ | refine g_skF ?_
    | ((first | apply s_plain | apply s_void | apply s_guard | apply g_goT | apply g_goF); · simp only [go_sem, Nat.reduceEqDiff, Nat.reduceAdd, Nat.reduceLeDiff, f0, hm1, ok1]; (first | done | rfl))
    | ((first | apply g_T | apply g_F | apply g_gT | apply g_gF); · intro q1_; (first | intro q2_ | have q2_ := q1_); simp only [go_sem, Nat.reduceEqDiff, Nat.reduceAdd, Nat.reduceLeDiff, f0, hm1, ok1, q1_, q2_]; (first | done | rfl))
    | (apply w_condX; · simp only [go_sem, Nat.reduceEqDiff, Nat.reduceAdd, Nat.reduceLeDiff, f0, hm1, ok1]; (first | done | rfl)); (first | refine wcd_T ?_ | refine wcd_F ?_)
    | refine w_skip ?_ | refine w_exit ?_ | refine w_ret ?_
    | fail
    )
          refine ⟨rfl, insA A i (freshA r ls), freshA r ls, r1, ⟨?_, fresh_tm r ls, hres.1.symm, hres.2.symm⟩, ⟨by simp only [go_sem, Nat.reduceEqDiff, Nat.reduceAdd, Nat.reduceLeDiff, f0], by simp only [go_sem, Nat.reduceEqDiff, Nat.reduceAdd, Nat.reduceLeDiff, f5], by simp only [go_sem, Nat.reduceEqDiff, Nat.reduceAdd, Nat.reduceLeDiff, f9]⟩, hw2, by simp only [go_sem, Nat.reduceEqDiff, Nat.reduceAdd, Nat.reduceLeDiff, hoR, m52, rule], hk2⟩
          unfold insA
          rw [List.getElem?_append_right (by rw [List.length_take]; omega), List.length_take, Nat.min_eq_left hpl, Nat.sub_self]
          rfl
    · clear f0 f2 f5 f8 f9 f10 f11
      rintro fr2 σ2 ⟨A1, a1, pA1, ⟨hx1, hTa, rfl, rfl⟩, ⟨f0, f5, f9⟩, hw, m5, hk⟩
      have hi1 : i < A1.length := (List.getElem?_eq_some_iff.1 hx1).1
      have he1 : A1[i] = a1 := (List.getElem?_eq_some_iff.1 hx1).2
      have hm := hw.hm
      obtain ⟨o1, g1, rfl, h1, h2⟩ : ∃ o1 g1, pA1 = .ob o1 g1 6 0 A1.length ∧ σ2.m o1 g1 = some ⟨6, als A1, true, true⟩ ∧ o1 ∈ RX := by
        rcases hw.ha with ⟨_, h⟩ | ⟨o1, g1, h, h1, h2⟩
        · have := congrArg List.length h; rw [als_len] at this; simp only [List.length_nil] at this; omega
        · rw [als_len] at h; exact ⟨o1, g1, h, h1, h2⟩
      obtain ⟨τ3, q1, q2, pC3, q3⟩ := a390 V (r := r) hw hi1 (by omega) hn (by rw [he1]; exact hTa.s) (by rw [he1]; exact hTa.t)
      have e1 : (0 : Int) ≤ (i : Int) ∧ (i : Int) < (A1.length : Int) := by omega
      unfold rule at m5 q1
      (repeat' first
    | refine w_seq ?_ | refine w_rg ?_ | refine wo_nil ?_ | refine g_skU ?_ | refine g_skT ?_ | refine g_skF ?_
    | ((first | apply s_plain | apply s_void | apply s_guard | apply g_goT | apply g_goF); · simp only [go_sem, Nat.reduceEqDiff, Nat.reduceAdd, Nat.reduceLeDiff, f0, f5, f9, hm, m5, e1, Int.toNat_natCast, Nat.zero_add]; (first | done | rfl))
    | ((first | apply g_T | apply g_F | apply g_gT | apply g_gF); · intro q1_; (first | intro q2_ | have q2_ := q1_); simp only [go_sem, Nat.reduceEqDiff, Nat.reduceAdd, Nat.reduceLeDiff, f0, f5, f9, hm, m5, e1, Int.toNat_natCast, Nat.zero_add, q1_, q2_]; (first | done | rfl))
    | fail
    )
      refine s_callvO (f := 390) (by simp only [go_sem, Nat.reduceEqDiff, Nat.reduceAdd, Nat.reduceLeDiff]) (by simp only [go_sem, Nat.reduceEqDiff, Nat.reduceAdd, Nat.reduceLeDiff, f0]; exact q1) ?_
      (repeat' first
    | refine w_seq ?_ | refine w_rg ?_ | refine wo_nil ?_ | refine g_skU ?_ | refine g_skT ?_ | refine g_skF ?_
    | ((first | apply s_plain | apply s_void | apply s_guard | apply g_goT | apply g_goF); · simp only [go_sem, Nat.reduceEqDiff, Nat.reduceAdd, Nat.reduceLeDiff]; (first | done | rfl))
    | ((first | apply g_T | apply g_F | apply g_gT | apply g_gF); · intro q1_; (first | intro q2_ | have q2_ := q1_); simp only [go_sem, Nat.reduceEqDiff, Nat.reduceAdd, Nat.reduceLeDiff, q1_, q2_]; (first | done | rfl))
    | (apply w_condX; · simp only [go_sem, Nat.reduceEqDiff, Nat.reduceAdd, Nat.reduceLeDiff]; (first | done | rfl)); (first | refine wcd_T ?_ | refine wcd_F ?_)
    | refine w_skip ?_ | refine w_exit ?_ | refine w_ret ?_
    | fail
    )
      rw [he1] at q3
      exact ⟨rfl, hk.trans q2, _, pC3, q3⟩
  | false =>
    simp only [Bool.false_eq_true, if_false] at hres
    cases b with
    | false =>
      simp only [Bool.false_eq_true, if_false, Prod.mk.injEq] at hres
      obtain ⟨rfl, rfl⟩ := hres
      refine x_to (x := .ret) (J := fun fr τ => Kb o g σ τ ∧ ∃ pA' pC', WO τ o g A C now pA' pC') ?_ (fun fr τ h => ⟨.inr rfl, by simp only [go_sem, Nat.reduceEqDiff, Nat.reduceAdd, Nat.reduceLeDiff, retOf, resOf], h⟩)
      refine x_blkR (x_seqE (by simp) (x_blkR (x_seqE (by simp) (x_blkR (x_seqN (P := fun fr τ => τ = σ1) (x_blkH (x_seqE (by simp) (x_blkM (by decide) (x_seqE (by simp) (x_blkM (by decide) ?_))))) ?_)))))
      · (repeat' first
    | refine w_seq ?_ | refine w_rg ?_ | refine wo_nil ?_ | refine g_skU ?_ | refine g_skT ?_ | refine g_skF ?_
    | ((first | apply s_plain | apply s_void | apply s_guard | apply g_goT | apply g_goF); · simp only [go_sem, Nat.reduceEqDiff, Nat.reduceAdd, Nat.reduceLeDiff, f10, f11]; (first | done | rfl))
    | ((first | apply g_T | apply g_F | apply g_gT | apply g_gF); · intro q1_; (first | intro q2_ | have q2_ := q1_); simp only [go_sem, Nat.reduceEqDiff, Nat.reduceAdd, Nat.reduceLeDiff, f10, f11, q1_, q2_]; (first | done | rfl))
    | (apply w_condX; · simp only [go_sem, Nat.reduceEqDiff, Nat.reduceAdd, Nat.reduceLeDiff, f10, f11]; (first | done | rfl)); (first | refine wcd_T ?_ | refine wcd_F ?_)
    | refine w_skip ?_ | refine w_exit ?_ | refine w_ret ?_
    | fail
    )
        exact ⟨rfl, rfl⟩
      · rintro fr2 τ rfl
        (repeat' first
    | refine w_seq ?_ | refine w_rg ?_ | refine wo_nil ?_ | refine g_skU ?_ | refine g_skT ?_ | refine g_skF ?_
    | ((first | apply s_plain | apply s_void | apply s_guard | apply g_goT | apply g_goF); · simp only [go_sem, Nat.reduceEqDiff, Nat.reduceAdd, Nat.reduceLeDiff]; (first | done | rfl))
    | ((first | apply g_T | apply g_F | apply g_gT | apply g_gF); · intro q1_; (first | intro q2_ | have q2_ := q1_); simp only [go_sem, Nat.reduceEqDiff, Nat.reduceAdd, Nat.reduceLeDiff, q1_, q2_]; (first | done | rfl))
    | (apply w_condX; · simp only [go_sem, Nat.reduceEqDiff, Nat.reduceAdd, Nat.reduceLeDiff]; (first | done | rfl)); (first | refine wcd_T ?_ | refine wcd_F ?_)
    | refine w_skip ?_ | refine w_exit ?_ | refine w_ret ?_
    | fail
    )
        exact ⟨rfl, hk, pA, pC, hw⟩
    | true =>
      simp only [if_true] at hres
      have hil := hhas rfl
      have hx := List.getElem?_eq_getElem hil
      have hy := als_at hx
      have hTq := hT _ (List.getElem_mem hil)
      rw [nthA_eq hil] at hres
      have e1 : (0 : Int) ≤ (i : Int) ∧ (i : Int) < (A.length : Int) := by omega
      have w1 : IntKind.i64.wrap ((i : Int) + 1) = ((i + 1 : Nat) : Int) := by rw [IntKind.wrap_i64]; omega
      obtain ⟨o1, g1, rfl, h1, h2⟩ : ∃ o1 g1, pA = .ob o1 g1 6 0 A.length ∧ σ1.m o1 g1 = some ⟨6, als A, true, true⟩ ∧ o1 ∈ RX := by
        rcases hw.ha with ⟨_, h⟩ | ⟨o1, g1, h, h1, h2⟩
        · have := congrArg List.length h; rw [als_len] at this; simp only [List.length_nil] at this; omega
        · rw [als_len] at h; exact ⟨o1, g1, h, h1, h2⟩
      have hm := hw.hm
      generalize hq : A[i] = q at hres hy hTq
      unfold al at hy
      by_cases s1 : q.state = 1
      · rw [if_pos s1] at hres
        simp only [Prod.mk.injEq] at hres
        obtain ⟨rfl, rfl⟩ := hres
        have c1 : (q.state == 1) = true := by simp [s1]
        refine x_to (x := .ret) (J := fun fr τ => Kb o g σ τ ∧ ∃ pA' pC', WO τ o g (delA A i) C now pA' pC') ?_ (fun fr τ h => ⟨.inr rfl, by simp only [go_sem, Nat.reduceEqDiff, Nat.reduceAdd, Nat.reduceLeDiff, retOf, resOf], h⟩)
        refine x_blkR (x_seqE (by simp) (x_blkR (x_seqN (P := fun fr τ => (fr 0 = .bx o g 3 0 0 ∧ fr 9 = .sc (.int .i64 (i : Int))) ∧ τ = σ1) (x_blkH (x_seqE (by simp) (x_blkM (by decide) (x_seqE (by simp) (x_blkM (by decide) (x_seqE (by simp) (x_blkM (by decide) ?_))))))) ?_)))
        · (repeat' first
    | refine w_seq ?_ | refine w_rg ?_ | refine wo_nil ?_ | refine g_skU ?_ | refine g_skT ?_ | refine g_skF ?_
    | ((first | apply s_plain | apply s_void | apply s_guard | apply g_goT | apply g_goF); · simp only [go_sem, Nat.reduceEqDiff, Nat.reduceAdd, Nat.reduceLeDiff, f0, f9, f10, f11, hm, h1, e1, hal, hy, Int.toNat_natCast, Nat.zero_add, c1]; (first | done | rfl))
    | ((first | apply g_T | apply g_F | apply g_gT | apply g_gF); · intro q1_; (first | intro q2_ | have q2_ := q1_); simp only [go_sem, Nat.reduceEqDiff, Nat.reduceAdd, Nat.reduceLeDiff, f0, f9, f10, f11, hm, h1, e1, hal, hy, Int.toNat_natCast, Nat.zero_add, c1, q1_, q2_]; (first | done | rfl))
    | (apply w_condX; · simp only [go_sem, Nat.reduceEqDiff, Nat.reduceAdd, Nat.reduceLeDiff, f0, f9, f10, f11, hm, h1, e1, hal, hy, Int.toNat_natCast, Nat.zero_add, c1]; (first | done | rfl)); (first | refine wcd_T ?_ | refine wcd_F ?_)
    | refine w_skip ?_ | refine w_exit ?_ | refine w_ret ?_
    | fail
    )
          exact ⟨rfl, ⟨by simp only [go_sem, Nat.reduceEqDiff, Nat.reduceAdd, Nat.reduceLeDiff, f0], by simp only [go_sem, Nat.reduceEqDiff, Nat.reduceAdd, Nat.reduceLeDiff, f9]⟩, rfl⟩
        · clear f0 f2 f5 f8 f9 f10 f11
          rintro fr2 τ ⟨⟨f0, f9⟩, rfl⟩
          (repeat' first
    | refine w_seq ?_ | refine w_rg ?_ | refine wo_nil ?_ | refine g_skU ?_ | refine g_skT ?_ | refine g_skF ?_
    | ((first | apply s_plain | apply s_void | apply s_guard | apply g_goT | apply g_goF); · simp only [go_sem, Nat.reduceEqDiff, Nat.reduceAdd, Nat.reduceLeDiff, f0, f9, hm, w1]; (first | done | rfl))
    | ((first | apply g_T | apply g_F | apply g_gT | apply g_gF); · intro q1_; (first | intro q2_ | have q2_ := q1_); simp only [go_sem, Nat.reduceEqDiff, Nat.reduceAdd, Nat.reduceLeDiff, f0, f9, hm, w1, q1_, q2_]; (first | done | rfl))
    | fail
    )
          refine s_del (V (391, .prim (delF 6)) (by simp [lwc])) (i := i) (xs := als A) (by simp only [go_sem, Nat.reduceEqDiff, Nat.reduceAdd, Nat.reduceLeDiff]) (by simp only [go_sem, Nat.reduceEqDiff, Nat.reduceAdd, Nat.reduceLeDiff]; first | done | rfl) (by simp only [go_sem, Nat.reduceEqDiff, Nat.reduceAdd, Nat.reduceLeDiff, w1]) hw.ha (by rw [hal]; exact hil) hw.hf fun r1 τ1 q1 q2 q3 => ?_
          have hm1 := (q2.m o g (by rcases hw.ho with e | e <;> rw [e] <;> decide) hw.lt).trans hw.hm
          have ok1 := q1.ok
          have htk : (als A).take i ++ (als A).drop (i + 1) = als (delA A i) := by simp [als, delA, List.map_take, List.map_drop]
          rw [htk] at q1
          have hw2 := hw.setRow q1 q2 q3
          have hk2 := (hk.keep q2 (by decide)).put (s := o) (k := g) (.inl ⟨rfl, rfl⟩) (some ⟨3, [.agg [r1, pC, .sc (.int .i64 now)]], true, true⟩)
          (repeat' first
    | refine w_seq ?_ | refine w_rg ?_ | refine wo_nil ?_ | refine g_skU ?_ | refine g_skT ?_ | refine g_skF ?_
    | ((first | apply s_plain | apply s_void | apply s_guard | apply g_goT | apply g_goF); · simp only [go_sem, Nat.reduceEqDiff, Nat.reduceAdd, Nat.reduceLeDiff, f0, hm1, ok1]; (first | done | rfl))
    | ((first | apply g_T | apply g_F | apply g_gT | apply g_gF); · intro q1_; (first | intro q2_ | have q2_ := q1_); simp only [go_sem, Nat.reduceEqDiff, Nat.reduceAdd, Nat.reduceLeDiff, f0, hm1, ok1, q1_, q2_]; (first | done | rfl))
    | (apply w_condX; · simp only [go_sem, Nat.reduceEqDiff, Nat.reduceAdd, Nat.reduceLeDiff, f0, hm1, ok1]; (first | done | rfl)); (first | refine wcd_T ?_ | refine wcd_F ?_)
    | refine w_skip ?_ | refine w_exit ?_ | refine w_ret ?_
    | fail
    )
          exact ⟨rfl, hk2, r1, pC, hw2⟩
      · rw [if_neg s1] at hres
        have c1 : (q.state == 1) = false := by simp [s1]
        refine x_to (x := .normal) (J := fun fr τ => (fr 0 = .bx o g 3 0 0 ∧ fr 5 = .bx 2000005 g5 8 0 0 ∧ fr 9 = .sc (.int .i64 (i : Int))) ∧ WO τ o g (A.set i (endA q now)) C now (.ob o1 g1 6 0 A.length) pC ∧ τ.m 2000005 g5 = some ⟨8, [rule r], true, true⟩ ∧ Kb o g σ τ) ?_ ?_
        · by_cases s2 : q.state = 2
          · have c2 : (q.state == 2) = true := by simp [s2]
            have hend : endA q now = { q with state := 3, ended := now } := by unfold endA; rw [if_pos s2]
            rw [hend]
            refine x_blkH (x_seqN (P := fun fr τ => (fr 0 = .bx o g 3 0 0 ∧ fr 5 = .bx 2000005 g5 8 0 0 ∧ fr 9 = .sc (.int .i64 (i : Int))) ∧ τ = σ1) (x_blkH (x_seqE (by simp) (x_blkM (by decide) (x_seqE (by simp) (x_blkM (by decide) (x_seqE (by simp) (x_blkM (by decide) (x_seqE (by simp) (x_blkM (by decide) ?_))))))))) ?_)
            · (repeat' first
    | refine w_seq ?_ | refine w_rg ?_ | refine wo_nil ?_ | refine g_skU ?_ | refine g_skT ?_ | refine g_skF ?_
    | ((first | apply s_plain | apply s_void | apply s_guard | apply g_goT | apply g_goF); · simp only [go_sem, Nat.reduceEqDiff, Nat.reduceAdd, Nat.reduceLeDiff, f0, f9, f10, f11, hm, h1, e1, hal, hy, Int.toNat_natCast, Nat.zero_add, c1, c2]; (first | done | rfl))
    | ((first | apply g_T | apply g_F | apply g_gT | apply g_gF); · intro q1_; (first | intro q2_ | have q2_ := q1_); simp only [go_sem, Nat.reduceEqDiff, Nat.reduceAdd, Nat.reduceLeDiff, f0, f9, f10, f11, hm, h1, e1, hal, hy, Int.toNat_natCast, Nat.zero_add, c1, c2, q1_, q2_]; (first | done | rfl))
    | (apply w_condX; · simp only [go_sem, Nat.reduceEqDiff, Nat.reduceAdd, Nat.reduceLeDiff, f0, f9, f10, f11, hm, h1, e1, hal, hy, Int.toNat_natCast, Nat.zero_add, c1, c2]; (first | done | rfl)); (first | refine wcd_T ?_ | refine wcd_F ?_)
    | refine w_skip ?_ | refine w_exit ?_ | refine w_ret ?_
    | fail
    )
              exact ⟨rfl, ⟨by simp only [go_sem, Nat.reduceEqDiff, Nat.reduceAdd, Nat.reduceLeDiff, f0], by simp only [go_sem, Nat.reduceEqDiff, Nat.reduceAdd, Nat.reduceLeDiff, f5], by simp only [go_sem, Nat.reduceEqDiff, Nat.reduceAdd, Nat.reduceLeDiff, f9]⟩, rfl⟩
            · clear f0 f2 f5 f8 f9 f10 f11
              rintro fr2 τ ⟨⟨f0, f5, f9⟩, rfl⟩
              (repeat' first
    | refine w_seq ?_ | refine w_rg ?_ | refine wo_nil ?_ | refine g_skU ?_ | refine g_skT ?_ | refine g_skF ?_
    | ((first | apply s_plain | apply s_void | apply s_guard | apply g_goT | apply g_goF); · simp only [go_sem, Nat.reduceEqDiff, Nat.reduceAdd, Nat.reduceLeDiff, f0, f9, hm, h1, e1, hal, hy, Int.toNat_natCast, Nat.zero_add]; (first | done | rfl))
    | ((first | apply g_T | apply g_F | apply g_gT | apply g_gF); · intro q1_; (first | intro q2_ | have q2_ := q1_); simp only [go_sem, Nat.reduceEqDiff, Nat.reduceAdd, Nat.reduceLeDiff, f0, f9, hm, h1, e1, hal, hy, Int.toNat_natCast, Nat.zero_add, q1_, q2_]; (first | done | rfl))
    | fail
    )
              refine s_stA hw h1 h2 hil (j := 2) (q' := { q with state := 3 }) (by simp only [go_sem, Nat.reduceEqDiff, Nat.reduceAdd, Nat.reduceLeDiff]) rfl (by decide) (by rw [hq]; rfl) fun τ2 hw1 h11 ho1 hc1 => ?_
              have hi1 : i < (A.set i { q with state := 3 }).length := by rw [List.length_set]; exact hil
              have hl1 : A.length = (A.set i { q with state := 3 }).length := by rw [List.length_set]
              (repeat' first
    | refine w_seq ?_ | refine w_rg ?_ | refine wo_nil ?_ | refine g_skU ?_ | refine g_skT ?_ | refine g_skF ?_
    | ((first | apply s_plain | apply s_void | apply s_guard | apply g_goT | apply g_goF); · simp only [go_sem, Nat.reduceEqDiff, Nat.reduceAdd, Nat.reduceLeDiff, f0, f9, h11, e1, hal, Int.toNat_natCast, Nat.zero_add]; (first | done | rfl))
    | ((first | apply g_T | apply g_F | apply g_gT | apply g_gF); · intro q1_; (first | intro q2_ | have q2_ := q1_); simp only [go_sem, Nat.reduceEqDiff, Nat.reduceAdd, Nat.reduceLeDiff, f0, f9, h11, e1, hal, Int.toNat_natCast, Nat.zero_add, q1_, q2_]; (first | done | rfl))
    | fail
    )
              rw [hl1] at hw1
              refine s_stA hw1 h11 h2 hi1 (j := 5) (q' := { q with state := 3, ended := now }) (by simp only [go_sem, Nat.reduceEqDiff, Nat.reduceAdd, Nat.reduceLeDiff]) (by simp only [go_sem, Nat.reduceEqDiff, Nat.reduceAdd, Nat.reduceLeDiff]; first | done | rfl) (by decide) (by rw [List.getElem_set_self]; rfl) fun τ3 hw2 h12 ho2 hc2 => ?_
              rw [← hl1, List.set_set] at hw2
              (repeat' first
    | refine w_seq ?_ | refine w_rg ?_ | refine wo_nil ?_ | refine g_skU ?_ | refine g_skT ?_ | refine g_skF ?_
    | ((first | apply s_plain | apply s_void | apply s_guard | apply g_goT | apply g_goF); · simp only [go_sem, Nat.reduceEqDiff, Nat.reduceAdd, Nat.reduceLeDiff]; (first | done | rfl))
    | ((first | apply g_T | apply g_F | apply g_gT | apply g_gF); · intro q1_; (first | intro q2_ | have q2_ := q1_); simp only [go_sem, Nat.reduceEqDiff, Nat.reduceAdd, Nat.reduceLeDiff, q1_, q2_]; (first | done | rfl))
    | (apply w_condX; · simp only [go_sem, Nat.reduceEqDiff, Nat.reduceAdd, Nat.reduceLeDiff]; (first | done | rfl)); (first | refine wcd_T ?_ | refine wcd_F ?_)
    | refine w_skip ?_ | refine w_exit ?_ | refine w_ret ?_
    | fail
    )
              exact ⟨rfl, ⟨by simp only [go_sem, Nat.reduceEqDiff, Nat.reduceAdd, Nat.reduceLeDiff, f0], by simp only [go_sem, Nat.reduceEqDiff, Nat.reduceAdd, Nat.reduceLeDiff, f5], by simp only [go_sem, Nat.reduceEqDiff, Nat.reduceAdd, Nat.reduceLeDiff, f9]⟩, hw2, by rw [ho2 _ _ (by decide), ho1 _ _ (by decide)]; exact m5, (hk.rx ho1 hc1).rx ho2 hc2⟩
          · have c2 : (q.state == 2) = false := by simp [s2]
            have hend : A.set i (endA q now) = A := by
              unfold endA
              rw [if_neg s2, ← hq]
              exact List.set_getElem_self hil
            rw [hend]
            refine x_blkH (x_seqE (by simp) (x_blkM (by decide) (x_seqE (by simp) (x_blkM (by decide) (x_seqE (by simp) (x_blkM (by decide) (x_seqE (by simp) (x_blkM (by decide) (x_seqE (by simp) (x_blkM (by decide) ?_))))))))))
            (repeat' first
    | refine w_seq ?_ | refine w_rg ?_ | refine wo_nil ?_ | refine g_skU ?_ | refine g_skT ?_ | refine g_skF ?_
    | ((first | apply s_plain | apply s_void | apply s_guard | apply g_goT | apply g_goF); · simp only [go_sem, Nat.reduceEqDiff, Nat.reduceAdd, Nat.reduceLeDiff, f0, f9, f10, f11, hm, h1, e1, hal, hy, Int.toNat_natCast, Nat.zero_add, c1, c2]; (first | done | rfl))
    | ((first | apply g_T | apply g_F | apply g_gT | apply g_gF); · intro q1_; (first | intro q2_ | have q2_ := q1_); simp only [go_sem, Nat.reduceEqDiff, Nat.reduceAdd, Nat.reduceLeDiff, f0, f9, f10, f11, hm, h1, e1, hal, hy, Int.toNat_natCast, Nat.zero_add, c1, c2, q1_, q2_]; (first | done | rfl))
    | (apply w_condX; · simp only [go_sem, Nat.reduceEqDiff, Nat.reduceAdd, Nat.reduceLeDiff, f0, f9, f10, f11, hm, h1, e1, hal, hy, Int.toNat_natCast, Nat.zero_add, c1, c2]; (first | done | rfl)); (first | refine wcd_T ?_ | refine wcd_F ?_)
    | refine w_skip ?_ | refine w_exit ?_ | refine w_ret ?_
    | fail
    )
            exact ⟨rfl, ⟨by simp only [go_sem, Nat.reduceEqDiff, Nat.reduceAdd, Nat.reduceLeDiff, f0], by simp only [go_sem, Nat.reduceEqDiff, Nat.reduceAdd, Nat.reduceLeDiff, f5], by simp only [go_sem, Nat.reduceEqDiff, Nat.reduceAdd, Nat.reduceLeDiff, f9]⟩, hw, m5, hk⟩
        · clear f0 f2 f5 f8 f9 f10 f11
          rintro fr2 τ ⟨⟨f0, f5, f9⟩, hw2, m52, hk2⟩
          have hi2 : i < (A.set i (endA q now)).length := by rw [List.length_set]; exact hil
          have he2 : (A.set i (endA q now))[i] = endA q now := List.getElem_set_self hi2
          have hTe := end_tm hTq hn
          obtain ⟨τ3, q1, q2, pA3, pC3, q3⟩ := a375 V (r := r) hw2 hi2 (by rw [List.length_set]; omega) (by omega) hn (by rw [he2]; exact hTe.e)
          rw [he2] at q1 q3
          unfold rule at q1 m52
          try show Wp _ _ _ _ _
          (repeat' first
    | refine w_seq ?_ | refine w_rg ?_ | refine wo_nil ?_ | refine g_skU ?_ | refine g_skT ?_ | refine g_skF ?_
    | ((first | apply s_plain | apply s_void | apply s_guard | apply g_goT | apply g_goF); · simp only [go_sem, Nat.reduceEqDiff, Nat.reduceAdd, Nat.reduceLeDiff, f0, f5, f9, m52]; (first | done | rfl))
    | ((first | apply g_T | apply g_F | apply g_gT | apply g_gF); · intro q1_; (first | intro q2_ | have q2_ := q1_); simp only [go_sem, Nat.reduceEqDiff, Nat.reduceAdd, Nat.reduceLeDiff, f0, f5, f9, m52, q1_, q2_]; (first | done | rfl))
    | fail
    )
          refine s_callO (by simp only [go_sem, Nat.reduceEqDiff, Nat.reduceAdd, Nat.reduceLeDiff, f0]; exact q1) ?_
          (repeat' first
    | refine w_seq ?_ | refine w_rg ?_ | refine wo_nil ?_ | refine g_skU ?_ | refine g_skT ?_ | refine g_skF ?_
    | ((first | apply s_plain | apply s_void | apply s_guard | apply g_goT | apply g_goF); · simp only [go_sem, Nat.reduceEqDiff, Nat.reduceAdd, Nat.reduceLeDiff]; (first | done | rfl))
    | ((first | apply g_T | apply g_F | apply g_gT | apply g_gF); · intro q1_; (first | intro q2_ | have q2_ := q1_); simp only [go_sem, Nat.reduceEqDiff, Nat.reduceAdd, Nat.reduceLeDiff, q1_, q2_]; (first | done | rfl))
    | (apply w_condX; · simp only [go_sem, Nat.reduceEqDiff, Nat.reduceAdd, Nat.reduceLeDiff]; (first | done | rfl)); (first | refine wcd_T ?_ | refine wcd_F ?_)
    | refine w_skip ?_ | refine w_exit ?_ | refine w_ret ?_
    | fail
    )
          have hel : (endA q now).labels = q.labels := by unfold endA; split <;> rfl
          have hR : RA = (if overB (endA q now) r now = true then (A.set i (endA q now)).take i ++ (A.set i (endA q now)).drop (i + 1) else A.set i (endA q now)) ∧ RC = (if overB (endA q now) r now = true then C ++ [⟨(endA q now).labels, false⟩] else C) := by
            rw [hel]
            by_cases ho2 : overB (endA q now) r now = true
            · rw [if_pos ho2] at hres
              simp only [Prod.mk.injEq] at hres
              rw [if_pos ho2, if_pos ho2]
              refine ⟨?_, hres.2.symm⟩
              rw [← hres.1]
              unfold delA
              rw [List.take_set_of_le (Nat.le_refl _), List.drop_set_of_lt (by omega)]
            · rw [if_neg ho2] at hres
              simp only [Prod.mk.injEq] at hres
              rw [if_neg ho2, if_neg ho2]
              exact ⟨hres.1.symm, hres.2.symm⟩
          rw [hR.1, hR.2]
          exact ⟨by simp, by simp only [go_sem, Nat.reduceEqDiff, Nat.reduceAdd, Nat.reduceLeDiff, retOf, resOf], hk2.trans q2, pA3, pC3, q3⟩
end

end
section
structure GoodA (A : List Al) : Prop where
  s : SrtA A
  f : ∀ a ∈ A, a.Fits
  t : ∀ a ∈ A, a.Tm
def SameK (a b : Al) : Prop := a.rule = b.rule ∧ a.labels = b.labels
theorem SameK.zero {a b : Al} (h : SameK a b) : cmpA a b = 0 := (cmpA_zero a b).2 ⟨h.1, by rw [h.2]⟩
theorem srt_set : ∀ {A : List Al} {i : Nat} {b : Al} (_ : SrtA A) (hi : i < A.length), SameK A[i] b → SrtA (A.set i b)
  | [], i, b, _, hi, _ => by simp at hi
  | a :: l, 0, b, hs, _, hk => by
    have hk : SameK a b := hk
    exact ⟨fun c hc => (cmpA_congr hk.zero).1.1 (hs.1 c hc), hs.2⟩
  | a :: l, i + 1, b, hs, hi, hk => by
    have hl : i < l.length := by simpa using hi
    have hk : SameK l[i] b := hk
    refine ⟨fun c hc => ?_, srt_set hs.2 hl hk⟩
    rcases List.mem_or_eq_of_mem_set hc with h | h
    · exact hs.1 c h
    · rw [h]
      exact (cmpA_congr hk.zero).2.1.1 (hs.1 _ (List.getElem_mem hl))
theorem srt_del : ∀ {A : List Al} (i : Nat) (_ : SrtA A), SrtA (delA A i)
  | [], i, _ => by simp [delA, SrtA]
  | a :: l, 0, hs => hs.2
  | a :: l, i + 1, hs => by
    have e : delA (a :: l) (i + 1) = a :: delA l i := rfl
    rw [e]
    refine ⟨fun c hc => hs.1 c ?_, srt_del i hs.2⟩
    unfold delA at hc
    rcases List.mem_append.1 hc with h | h
    · exact List.mem_of_mem_take h
    · exact List.mem_of_mem_drop h
theorem has_cons {a : Al} {l : List Al} {t : Al} (h : cmpA a t < 0) : hasA (a :: l) t = hasA l t := by
  have e : posA (a :: l) t = posA l t + 1 := by
    show (if cmpA a t < 0 then posA l t + 1 else 0) = _
    rw [if_pos h]
  unfold hasA
  rw [e]
  have e2 : nthA (a :: l) (posA l t + 1) = nthA l (posA l t) := rfl
  rw [e2]
  simp
theorem srt_ins : ∀ {A : List Al} {t : Al} (_ : SrtA A), hasA A t = false → SrtA (insA A (posA A t) t)
  | [], t, _, _ => ⟨by simp, trivial⟩
  | a :: l, t, hs, hh => by
    by_cases h : cmpA a t < 0
    · have e : posA (a :: l) t = posA l t + 1 := by
        show (if cmpA a t < 0 then posA l t + 1 else 0) = _
        rw [if_pos h]
      rw [e]
      have e2 : insA (a :: l) (posA l t + 1) t = a :: insA l (posA l t) t := rfl
      rw [e2]
      rw [has_cons h] at hh
      refine ⟨fun c hc => ?_, srt_ins hs.2 hh⟩
      unfold insA at hc
      rcases List.mem_append.1 hc with h1 | h1
      · exact hs.1 c (List.mem_of_mem_take h1)
      · rcases List.mem_cons.1 h1 with rfl | h1
        · exact h
        · exact hs.1 c (List.mem_of_mem_drop h1)
    · have e : posA (a :: l) t = 0 := by
        show (if cmpA a t < 0 then posA l t + 1 else 0) = _
        rw [if_neg h]
      unfold hasA at hh
      rw [e] at hh ⊢
      have e3 : nthA (a :: l) 0 = a := rfl
      rw [e3] at hh
      have hne : ¬ cmpA a t = 0 := by simpa using hh
      have hta : cmpA t a < 0 := by
        rcases cmpA_tri a t with h1 | h1 | h1
        · exact absurd h1 h
        · exact absurd h1 hne
        · exact h1
      have e2 : insA (a :: l) 0 t = t :: a :: l := rfl
      rw [e2]
      refine ⟨fun c hc => ?_, hs⟩
      rcases List.mem_cons.1 hc with rfl | hc
      · exact hta
      · exact cmpA_trans hta (hs.1 c hc)
theorem fire_key (a : Al) (r : Rule) (now : Int) : SameK a (fireA a r now).1 := by
  unfold fireA
  split
  · exact ⟨rfl, rfl⟩
  · split
    · unfold fireT bump
      repeat' split
      all_goals exact ⟨rfl, rfl⟩
    · exact ⟨rfl, rfl⟩
theorem end_key (a : Al) (now : Int) : SameK a (endA a now) := by
  unfold endA
  split <;> exact ⟨rfl, rfl⟩
theorem samek_fits {a b : Al} (h : SameK a b) (ha : a.Fits) : b.Fits := ⟨h.1 ▸ ha.r, h.2 ▸ ha.l, h.2 ▸ ha.s⟩
theorem fire_tm {a : Al} {r : Rule} {now : Int} (h : a.Tm) (hn : timeB now = true) : (fireA a r now).1.Tm := by
  have ht := h.t
  unfold fireA
  split
  · exact ⟨h.s, rfl, h.t⟩
  · split
    · have key : ∀ b : Al, b.Tm → (fireT (bump b) a.labels r now).1.Tm := by
        intro b hb
        have hbt := hb.t
        have hc : (bump b).Tm := ⟨hb.s, hb.e, by unfold bump; simp only; split <;> omega⟩
        unfold fireT
        split
        · exact ⟨hc.s, hc.e, hc.t⟩
        · exact hc
      apply key
      split
      · exact ⟨hn, h.e, h.t⟩
      · exact h
    · exact h
theorem fire_ch (a : Al) (r : Rule) (now : Int) : (fireA a r now).2.length ≤ 1 := by
  unfold fireA
  split
  · exact Nat.zero_le _
  · split
    · have key : ∀ c ls, (fireT c ls r now).2.length ≤ 1 := by
        intro c ls
        unfold fireT
        split
        · exact Nat.le_refl 1
        · exact Nat.zero_le _
      exact key _ _
    · exact Nat.zero_le _
theorem mem_del {A : List Al} {i : Nat} {c : Al} (h : c ∈ delA A i) : c ∈ A := by
  unfold delA at h
  rcases List.mem_append.1 h with h | h
  · exact List.mem_of_mem_take h
  · exact List.mem_of_mem_drop h
theorem mem_ins {A : List Al} {i : Nat} {t c : Al} (h : c ∈ insA A i t) : c = t ∨ c ∈ A := by
  unfold insA at h
  rcases List.mem_append.1 h with h | h
  · exact .inr (List.mem_of_mem_take h)
  · rcases List.mem_cons.1 h with h | h
    · exact .inl h
    · exact .inr (List.mem_of_mem_drop h)
theorem GoodA.set {A : List Al} {i : Nat} {b : Al} (h : GoodA A) (hi : i < A.length) (hk : SameK A[i] b) (hb : b.Tm) : GoodA (A.set i b) :=
  ⟨srt_set h.s hi hk, fun c hc => by
    rcases List.mem_or_eq_of_mem_set hc with h1 | h1
    · exact h.f c h1
    · rw [h1]; exact samek_fits hk (h.f _ (List.getElem_mem hi)), fun c hc => by
    rcases List.mem_or_eq_of_mem_set hc with h1 | h1
    · exact h.t c h1
    · rw [h1]; exact hb⟩
theorem GoodA.del {A : List Al} (h : GoodA A) (i : Nat) : GoodA (delA A i) := ⟨srt_del i h.s, fun c hc => h.f c (mem_del hc), fun c hc => h.t c (mem_del hc)⟩
theorem GoodA.ins {A : List Al} {t : Al} (h : GoodA A) (hh : hasA A t = false) (hf : t.Fits) (ht : t.Tm) : GoodA (insA A (posA A t) t) :=
  ⟨srt_ins h.s hh, fun c hc => by rcases mem_ins hc with rfl | h1; exact hf; exact h.f c h1, fun c hc => by rcases mem_ins hc with rfl | h1; exact ht; exact h.t c h1⟩
theorem ins_len (A : List Al) (i : Nat) (t : Al) (h : i ≤ A.length) : (insA A i t).length = A.length + 1 := by unfold insA; simp; omega
theorem ins_at {A : List Al} {i : Nat} {t : Al} (h : i ≤ A.length) : (insA A i t)[i]? = some t := by
  unfold insA
  rw [List.getElem?_append_right (by rw [List.length_take]; omega), List.length_take, Nat.min_eq_left h, Nat.sub_self]
  rfl
theorem del_len (A : List Al) (i : Nat) : (delA A i).length ≤ A.length := by unfold delA; simp; omega
theorem ruleW_good {A : List Al} {C : List Ch} {r : Rule} {ls : List Lab} {v now : Int} (h : GoodA A) (hf : (freshA r ls).Fits) (hn : timeB now = true) :
    GoodA (ruleW A C r ls v now).1 ∧ (ruleW A C r ls v now).1.length ≤ A.length + 1 ∧ (ruleW A C r ls v now).2.length ≤ C.length + 1 := by
  have hpl := pos_le A (freshA r ls)
  unfold ruleW
  split
  · split
    · rename_i hh
      have hil : posA A (freshA r ls) < A.length := by
        unfold hasA at hh
        simp only [Bool.and_eq_true, decide_eq_true_eq] at hh
        exact hh.1
      rw [nthA_eq hil]
      have hc := fire_ch A[posA A (freshA r ls)] r now
      exact ⟨h.set hil (fire_key _ _ _) (fire_tm (h.t _ (List.getElem_mem hil)) hn), by simp, by simp; omega⟩
    · rename_i hh
      have hg := h.ins (by simpa using hh) hf (fresh_tm r ls)
      have hlen := ins_len A (posA A (freshA r ls)) (freshA r ls) hpl
      have hil : posA A (freshA r ls) < (insA A (posA A (freshA r ls)) (freshA r ls)).length := by omega
      have hat : (insA A (posA A (freshA r ls)) (freshA r ls))[posA A (freshA r ls)] = freshA r ls := (List.getElem?_eq_some_iff.1 (ins_at hpl)).2
      have hc := fire_ch (freshA r ls) r now
      exact ⟨hg.set hil (by rw [hat]; exact fire_key _ _ _) (fire_tm (fresh_tm r ls) hn), by dsimp only; rw [List.length_set]; omega, by simp; omega⟩
  · split
    · rename_i hh
      have hil : posA A (freshA r ls) < A.length := by
        unfold hasA at hh
        simp only [Bool.and_eq_true, decide_eq_true_eq] at hh
        exact hh.1
      have hd := del_len A (posA A (freshA r ls))
      split
      · exact ⟨h.del _, by dsimp only; omega, by dsimp only; omega⟩
      · split
        · exact ⟨h.del _, by dsimp only; omega, by simp⟩
        · rw [nthA_eq hil]
          exact ⟨h.set hil (end_key _ _) (end_tm (h.t _ (List.getElem_mem hil)) hn), by simp, by dsimp only; omega⟩
    · exact ⟨h, by dsimp only; omega, by dsimp only; omega⟩
theorem right_good {l : List Rule} {a : List Al} (h : rightW l a = true) (hf : ∀ x ∈ a, x.Fits) : GoodA a ∧ a.length ≤ 64 := by
  unfold rightW at h
  simp only [Bool.and_eq_true, decide_eq_true_eq] at h
  obtain ⟨⟨h1, _⟩, h3⟩ := h
  rw [List.all_eq_true] at h1
  have hb : ∀ i, i < a.length → badA l a i = false := fun i hi => by simpa using h1 i (by simpa using hi)
  refine ⟨⟨srt_of fun i hi => ?_, hf, fun x hx => ?_⟩, h3⟩
  · have := hb (i + 1) hi
    unfold badA at this
    simp only [Bool.or_eq_false_iff, Bool.and_eq_false_iff, decide_eq_false_iff_not] at this
    have h2 := this.2.resolve_left (by simp)
    rw [nthA_eq hi, show i + 1 - 1 = i by omega, nthA_eq (by omega)] at h2
    omega
  · obtain ⟨i, hi, rfl⟩ := List.getElem_of_mem hx
    have := hb i hi
    unfold badA at this
    simp only [Bool.or_eq_false_iff, Bool.not_eq_false'] at this
    have hm := this.1
    rw [nthA_eq hi] at hm
    unfold mayA at hm
    simp only [Bool.and_eq_true, Bool.not_eq_true', Bool.or_eq_false_iff, Bool.not_eq_false', decide_eq_false_iff_not] at hm
    obtain ⟨⟨⟨⟨⟨⟨⟨⟨_, _⟩, _⟩, _⟩, _⟩, g1⟩, g2⟩, g3⟩, g4⟩ := hm
    refine ⟨g1, ?_, by omega⟩
    split at g4
    · simp only [Bool.and_eq_true] at g4; exact g4.2
    · have : a[i].ended = 0 := by simpa using g4
      rw [this]; rfl

end
section
attribute [local go_sem ↓] e_mv e_pick e_bin e_eqs e_beq e_un e_cvi e_str e_s2b e_b2s e_box e_build e_bsl e_ld e_st e_nck e_mkf e_slcS e_slcL e_fa e_fld e_ia e_iaa e_ix e_ixa e_ext e_lenS e_lenL e_mnmx e_app e_appb e_bbx e_msl e_clr e_call e_callv e_icall e_slcA e_mkm e_mput e_mget e_mlen e_mdel pa_t pa_c pa_f slcSP_str hiOf_some hiOf_none loOf_some loOf_none set_eq set_ne
attribute [local go_sem] pv pv1 simple frOf_0 frOf_1 frOf_2 frOf_3 frOf_4 frOf_5 ne_eq not_false_eq_true if_true Bool.false_eq_true if_false pbin punary Option.map_some Option.bind_some pick_and pick_or opt_true Bool.true_and Bool.and_self Bool.and_true Bool.true_or Bool.false_or Bool.not_true Bool.not_false callE pcall_eq List.map_cons List.map_nil List.append_nil List.nil_append List.cons_append mapM_cons' mapM_nil' dep_eq fz_sc fz_sl fz_em fz_fn fz_fp fz_agg fz_tu fz_bx fz_ob Nat.lt_irrefl Nat.zero_lt_one Nat.lt_add_one flat clL cl Bool.or_true okc_sc okc_em okc_sl okc_ob okc_bx okc_fp okc_fn okc_agg okc_ifc cells_agg cells_sc cells_sl cells_em cells_ob cells_fn cells_bx cells_fp List.length_cons List.length_nil Nat.zero_add and_self true_and and_true new_m new_c put_m put_c nil_m nil_c nil_mm new_mm put_mm newM_m newM_c newM_mm putM_m putM_c putM_mm mkeyV_1 mkeyV_2 mapAt_eq deref List.getElem?_cons_zero List.getElem?_cons_succ List.drop_zero List.drop_succ_cons List.take_succ_cons List.take_zero Nat.le_refl false_and and_false decide_true decide_false lenP_em lenP_nil lenP_sl lenP_ob Int.ofNat_zero splice fillP fillE List.modify_zero_cons List.replicate_succ List.replicate_zero List.set_cons_zero List.drop_zero ba_data ba_size ba_toList ba_extract ba_append List.toList_toArray
def d355 : Def := (.code 4 [.tmp 8, .tmp 9, .tmp 10] (.seq (.rg false [⟨.some 6, .none, .box (.t 2)⟩, ⟨.some 8, .none, .mv (.c (.slice .none 0 0))⟩, ⟨.some 9, .none, .mv (.c (.slice .none 0 0))⟩, ⟨.some 10, .none, .mv (.c (.int .i64 0))⟩]) (.seq (.seq (.rg false [⟨.some 17, .none, .mv (.t 0)⟩, ⟨.some 18, .none, .mv (.t 1)⟩, ⟨.some 19, .none, .mv (.t 3)⟩, ⟨.some 20, .none, .call 371 .pure [.t 17, .t 18, .t 19]⟩, ⟨.some 11, .none, .mv (.t 20)⟩]) (.seq (.rg false [⟨.some 21, .none, .mv (.t 11)⟩, ⟨.some 22, .none, .bin .neq (.t 21) (.c (.int .i64 0))⟩]) (.cond (.t 22) (.seq (.rg false [⟨.some 23, .none, .mv (.t 11)⟩, ⟨.some 8, .none, .mv (.c (.slice .none 0 0))⟩, ⟨.some 9, .none, .mv (.c (.slice .none 0 0))⟩, ⟨.some 10, .none, .mv (.t 23)⟩]) .ret) .skip))) (.seq (.seq (.rg false [⟨.some 24, .none, .fa 0 (.t 6)⟩, ⟨.some 25, .none, .ld .none (.t 24)⟩, ⟨.some 26, .none, .build (.agg #[.string ⟨#[]⟩, .slice .none 0 0, .slice .none 0 0]) [(0, (1, .t 25))]⟩, ⟨.some 27, .none, .bsl 3 (.agg #[.string ⟨#[]⟩, .slice .none 0 0, .slice .none 0 0]) 1 [(0, .t 26)]⟩, ⟨.some 28, .none, .call 9 .pure [.t 27]⟩, ⟨.some 29, .none, .un .not (.t 28)⟩, ⟨.some 30, .none, .mv (.t 29)⟩, ⟨.some 31, .some (30, false), .fa 1 (.t 6)⟩, ⟨.some 32, .some (30, false), .ld .none (.t 31)⟩, ⟨.some 33, .some (30, false), .call 113 .pure [.t 32]⟩, ⟨.some 34, .some (30, false), .un .not (.t 33)⟩, ⟨.some 35, .none, .pick (.t 30) (.c (.bool true)) (.t 34)⟩, ⟨.some 36, .none, .mv (.t 35)⟩, ⟨.some 37, .some (36, false), .fa 2 (.t 6)⟩, ⟨.some 38, .some (36, false), .ld .none (.t 37)⟩, ⟨.some 39, .some (36, false), .bin .lss (.t 38) (.c (.int .i64 (-1099511627776)))⟩, ⟨.some 40, .none, .pick (.t 36) (.c (.bool true)) (.t 39)⟩, ⟨.some 41, .none, .mv (.t 40)⟩, ⟨.some 42, .some (41, false), .fa 2 (.t 6)⟩, ⟨.some 43, .some (41, false), .ld .none (.t 42)⟩, ⟨.some 44, .some (41, false), .bin .gtr (.t 43) (.c (.int .i64 1099511627776))⟩, ⟨.some 45, .none, .pick (.t 41) (.c (.bool true)) (.t 44)⟩]) (.cond (.t 45) (.seq (.rg false [⟨.some 8, .none, .mv (.c (.slice .none 0 0))⟩, ⟨.some 9, .none, .mv (.c (.slice .none 0 0))⟩, ⟨.some 10, .none, .mv (.c (.int .i64 1))⟩]) .ret) .skip)) (.seq (.rg false [⟨.some 46, .none, .mv (.t 1)⟩, ⟨.some 47, .none, .icall 372 [.t 46]⟩, ⟨.some 48, .none, .mv (.t 3)⟩, ⟨.some 49, .none, .build (.agg #[.slice .none 0 0, .slice .none 0 0, .int .i64 0]) [(0, (1, .t 47)), (2, (1, .t 48))]⟩, ⟨.some 50, .none, .box (.t 49)⟩, ⟨.some 12, .none, .mv (.t 50)⟩]) (.seq (.seq (.rg false [⟨.some 51, .none, .mv (.t 0)⟩, ⟨.some 52, .none, .lenL (.t 51)⟩, ⟨.some 53, .none, .mv (.c (.int .i64 0))⟩]) (.block 0 (.loop (.seq (.rg false [⟨.some 54, .none, .bin .lss (.t 53) (.t 52)⟩]) (.seq (.cond (.t 54) .skip (.exit 0)) (.seq (.block 1 (.seq (.rg false [⟨.some 55, .none, .ia 8 (.t 51) (.t 53)⟩, ⟨.some 56, .none, .ld (.some 8) (.t 55)⟩, ⟨.some 14, .none, .box (.c (.agg #[.string ⟨#[]⟩, .string ⟨#[]⟩, .int .i64 0, .int .i64 0, .int .i64 0, .int .i64 0, .int .i64 0, .slice .none 0 0]))⟩, ⟨.none, .none, .st 8 (.t 14) (.t 56)⟩]) (.seq (.seq (.rg false [⟨.some 57, .none, .fa 1 (.t 14)⟩, ⟨.some 58, .none, .ld .none (.t 57)⟩, ⟨.some 59, .none, .fa 0 (.t 6)⟩, ⟨.some 60, .none, .ld .none (.t 59)⟩, ⟨.some 61, .none, .bin .neq (.t 58) (.t 60)⟩]) (.cond (.t 61) (.exit 1) .skip)) (.seq (.rg false [⟨.some 63, .none, .ld (.some 8) (.t 14)⟩, ⟨.some 64, .none, .fa 1 (.t 6)⟩, ⟨.some 65, .none, .ld .none (.t 64)⟩, ⟨.some 66, .none, .call 109 .pure [.t 63, .t 65]⟩, ⟨.some 62, .none, .mv (.t 66)⟩, ⟨.some 67, .none, .ext (.t 62) 0⟩, ⟨.some 68, .none, .ext (.t 62) 1⟩, ⟨.some 15, .none, .mv (.t 67)⟩, ⟨.some 16, .none, .mv (.t 68)⟩]) (.seq (.seq (.rg false [⟨.some 69, .none, .mv (.t 16)⟩, ⟨.some 70, .none, .bin .neq (.t 69) (.c (.int .i64 0))⟩]) (.cond (.t 70) (.seq (.rg false [⟨.some 71, .none, .mv (.t 16)⟩, ⟨.some 8, .none, .mv (.c (.slice .none 0 0))⟩, ⟨.some 9, .none, .mv (.c (.slice .none 0 0))⟩, ⟨.some 10, .none, .mv (.t 71)⟩]) .ret) .skip)) (.seq (.rg false [⟨.some 72, .none, .mv (.t 12)⟩, ⟨.some 73, .none, .ld (.some 8) (.t 14)⟩, ⟨.some 74, .none, .mv (.t 15)⟩, ⟨.some 75, .none, .fa 2 (.t 6)⟩, ⟨.some 76, .none, .ld .none (.t 75)⟩, ⟨.some 77, .none, .call 373 .opn [.t 72, .t 73, .t 74, .t 76]⟩]) (.seq (.rg false [⟨.some 78, .none, .mv (.t 12)⟩, ⟨.some 79, .none, .nck (.t 78)⟩, ⟨.some 80, .none, .fa 0 (.t 79)⟩, ⟨.some 81, .none, .ld .none (.t 80)⟩, ⟨.some 82, .none, .lenL (.t 81)⟩, ⟨.some 83, .none, .bin .gtr (.t 82) (.c (.int .i64 64))⟩]) (.cond (.t 83) (.seq (.rg false [⟨.some 8, .none, .mv (.c (.slice .none 0 0))⟩, ⟨.some 9, .none, .mv (.c (.slice .none 0 0))⟩, ⟨.some 10, .none, .mv (.c (.int .i64 13))⟩]) .ret) .skip)))))))) (.rg false [⟨.some 84, .none, .bin .add (.t 53) (.c (.int .i64 1))⟩, ⟨.some 53, .none, .mv (.t 84)⟩]))))))) (.seq (.rg true [⟨.some 85, .none, .mv (.t 12)⟩, ⟨.some 86, .none, .nck (.t 85)⟩, ⟨.some 87, .none, .fa 0 (.t 86)⟩, ⟨.some 88, .none, .ld .none (.t 87)⟩, ⟨.some 89, .none, .mv (.t 12)⟩, ⟨.some 90, .none, .nck (.t 89)⟩, ⟨.some 91, .none, .fa 1 (.t 90)⟩, ⟨.some 92, .none, .ld .none (.t 91)⟩, ⟨.some 8, .none, .mv (.t 88)⟩, ⟨.some 9, .none, .mv (.t 92)⟩, ⟨.some 10, .none, .mv (.c (.int .i64 0))⟩]) .ret)))))))
def lwe : List (Nat × Def) := [(355, d355), (372, .prim (cloneF 6 72))]
structure Sm where
  metric : ByteArray
  labels : List Lab
  value : Int
def smp (s : Sm) : PV := .agg [.sc (.string s.metric), .sl (labs s.labels), .sc (.int .i64 s.value)]
structure Sm.Fits (s : Sm) : Prop where
  m : Small s.metric
  l : s.labels.length ≤ 9223372036854775807
  s : Smalls s.labels
def stepT (s : Sm) (now : Int) (q : List Al × List Ch) (r : Rule) : List Al × List Ch := if decide (r.metric = s.metric) = true then ruleW q.1 q.2 r (labelsR r s.labels).1 s.value now else q
def errT (s : Sm) (now : Int) (q : List Al × List Ch) (r : Rule) : Int :=
  if decide (r.metric = s.metric) = true then (if (labelsR r s.labels).2 != 0 then (labelsR r s.labels).2 else if ((stepT s now q r).1.length : Int) > 64 then 13 else 0) else 0
def goT (s : Sm) (now : Int) : List Rule → List Al × List Ch → List Al × List Ch × Int
  | [], q => (q.1, q.2, 0)
  | r :: l, q => if errT s now q r != 0 then ([], [], errT s now q r) else goT s now l (stepT s now q r)
def badS (s : Sm) : Bool := !wordB s.metric || !rightL s.labels || decide (s.value < -1099511627776) || decide (s.value > 1099511627776)
def takeW (l : List Rule) (a : List Al) (s : Sm) (now : Int) : List Al × List Ch × Int :=
  if askedW l a now != 0 then ([], [], askedW l a now) else if badS s = true then ([], [], 1) else goT s now l (a, [])
section
variable {env : Nat → Option Def} {fr : Fr} {σ σ' σ'' : St} {K : Fr → St → Prop} {Q : X → Fr → St → Prop} {p : PV} {bs : List UInt8}
theorem als_all (l : List Al) : ((als l).all fun y => okc y && (cellsOf y).length == 6) = true := by
  rw [List.all_eq_true]
  intro y hy
  obtain ⟨a, _, rfl⟩ := List.mem_map.1 hy
  rfl
theorem s_clone {d t : Nat} {A : List Al} {ops : List POp} (hk : env 372 = some (.prim (cloneF 6 72))) (ht : fr t = .sl (als A)) (hd : d ∈ RX) (hl : A.length ≤ 1000) (hF : Fresh σ)
    (h : ∀ r τ, RowA τ r (als A) → Keeps σ τ RX → Fresh τ → Wos env ops K (fr.set d r) τ) : Wos env (⟨some d, none, .icall 372 [.t t]⟩ :: ops) K fr σ := by
  have hal := als_len A
  have hall := als_all A
  have hcl : clL (als A) = true := clL_of fun q hq => by
    obtain ⟨a, _, rfl⟩ := List.mem_map.1 hq
    rfl
  by_cases he : als A = []
  · refine s_plain (v := .em) (σ' := σ) ?_ (h .em σ (.inl ⟨rfl, he⟩) ⟨fun _ => Nat.le_refl _, fun _ _ _ _ => rfl⟩ hF)
    simp only [evO, List.map_cons, List.map_nil, pa_t, ht]
    refine @icall_em env d 372 [.sl (als A)] [.sl (als A)] σ St.nil rfl ?_
    rw [EV_prim hk]
    simp only [cloneF, hall, Bool.true_and]
    rw [if_pos (by rw [hal]; simp; omega)]
    simp [he]
  · refine s_plain (v := .ob d (σ.c d) 6 0 (als A).length) (σ' := σ.new d ⟨6, als A, true, true⟩) ?_ (h _ _ (.inr ⟨d, σ.c d, rfl, by simp [new_m], hd⟩) ⟨fun x => new_c_le _ _ _ _, fun o g _ hg => ?_⟩ (hF.new _ _))
    · simp only [evO, List.map_cons, List.map_nil, pa_t, ht]
      refine @icall_ob env d 372 7 0 [.sl (als A)] [.sl (als A)] ⟨6, als A, true, true⟩ σ (St.nil.new 7 ⟨6, als A, true, true⟩) rfl ?_ (by simp [new_m, nil_c]) rfl rfl (by simp [clL, cl, hcl])
      rw [EV_prim hk]
      simp only [cloneF, hall, Bool.true_and]
      rw [if_pos (by rw [hal]; simp; omega)]
      simp [he, nil_c]
    · simp only [new_m]
      rw [if_neg (fun e => by rw [e.1, e.2] at hg; omega)]
theorem chs_fz (σ : St) (d : Nat) (l : List Ch) : (chs l).mapM (fz σ (d + 2)) = some (chs l) := by
  induction l with
  | nil => rfl
  | cons a r ih =>
    show List.mapM (fz σ (d + 2)) (ch a :: chs r) = _
    rw [mapM_cons', ih]
    rfl
theorem labelsR_right {r : Rule} {l : List Lab} (h : (labelsR r l).2 = 0) : rightL (labelsR r l).1 = true := by
  unfold labelsR at h ⊢
  split at h
  · cases h
  · rename_i h1
    rw [if_neg h1]
    split at h
    · rename_i h2
      simp at h2
      exact absurd h h2
    · rename_i h2
      rw [if_neg h2]
      exact withL_ok h
theorem goT_eq (s : Sm) (now : Int) (l : List Rule) (q : List Al × List Ch) {i : Nat} (hi : i < l.length) : goT s now (l.drop i) q = if errT s now q l[i] != 0 then ([], [], errT s now q l[i]) else goT s now (l.drop (i + 1)) (stepT s now q l[i]) := by
  rw [List.drop_eq_getElem_cons hi]
  rfl
theorem ruled_len {l : List Rule} {a : List Al} (h : rightW l a = true) : l.length ≤ 16 := by
  unfold rightW at h
  simp only [Bool.and_eq_true, decide_eq_true_eq] at h
  have h2 := h.1.2
  unfold ruledB at h2
  simp only [Bool.and_eq_true, decide_eq_true_eq] at h2
  exact h2.2
theorem a355 (B : Wb env) (W : Has lwa env) (U : Has lwb env) (V : Has lwc env) (D : Has lwd env) (E : Has lwe env) {l : List Rule} {a : List Al} {s : Sm} {now : Int} (hn : l.length ≤ 9223372036854775807) (hf : ∀ r ∈ l, r.Fits) (han : a.length ≤ 9223372036854775807) (haf : ∀ x ∈ a, x.Fits) (hs : s.Fits) :
    AV env 355 [.sl (rules l), .sl (als a), smp s, .sc (.int .i64 now)] = some (.tu [.sl (als (takeW l a s now).1), .sl (chs (takeW l a s now).2.1), .sc (.int .i64 (takeW l a s now).2.2)]) := by
  have h371 := a371 B W U (now := now) hn hf han haf
  have h9 := a9e (la_law B.la) (lf_lf0 B.lf) hs.m
  have h113 := a113 (la_la0 B.la) B.lc (l := s.labels) hs.l hs.s
  have hrl := rules_len l
  obtain ⟨RA, RC, re, hres⟩ : ∃ RA RC re, takeW l a s now = (RA, RC, re) := ⟨_, _, _, rfl⟩
  rw [hres]
  unfold takeW at hres
  refine AV_wp (E (355, d355) (by simp [lwe])) rfl ?_
  unfold smp
  unfold bare at h9
  (repeat' first
    | refine w_seq ?_ | refine w_rg ?_ | refine wo_nil ?_ | refine g_skU ?_ | refine g_skT ?_ | refine g_skF ?_
    | ((first | apply s_plain | apply s_void | apply s_guard | apply g_goT | apply g_goF); · simp only [go_sem, Nat.reduceEqDiff, Nat.reduceAdd, Nat.reduceLeDiff, h371]; (first | done | rfl))
    | ((first | apply g_T | apply g_F | apply g_gT | apply g_gF); · intro q1_; (first | intro q2_ | have q2_ := q1_); simp only [go_sem, Nat.reduceEqDiff, Nat.reduceAdd, Nat.reduceLeDiff, h371, q1_, q2_]; (first | done | rfl))
    | fail
    )
  refine w_condB (by simp only [go_sem, Nat.reduceEqDiff, Nat.reduceAdd, Nat.reduceLeDiff]; first | done | rfl) (fun hc => ?_) (fun hc => ?_)
  · rw [if_pos hc] at hres
    simp only [Prod.mk.injEq] at hres
    obtain ⟨rfl, rfl, rfl⟩ := hres
    (repeat' first
    | refine w_seq ?_ | refine w_rg ?_ | refine wo_nil ?_ | refine g_skU ?_ | refine g_skT ?_ | refine g_skF ?_
    | ((first | apply s_plain | apply s_void | apply s_guard | apply g_goT | apply g_goF); · simp only [go_sem, Nat.reduceEqDiff, Nat.reduceAdd, Nat.reduceLeDiff]; (first | done | rfl))
    | ((first | apply g_T | apply g_F | apply g_gT | apply g_gF); · intro q1_; (first | intro q2_ | have q2_ := q1_); simp only [go_sem, Nat.reduceEqDiff, Nat.reduceAdd, Nat.reduceLeDiff, q1_, q2_]; (first | done | rfl))
    | (apply w_condX; · simp only [go_sem, Nat.reduceEqDiff, Nat.reduceAdd, Nat.reduceLeDiff]; (first | done | rfl)); (first | refine wcd_T ?_ | refine wcd_F ?_)
    | refine w_skip ?_ | refine w_exit ?_ | refine w_ret ?_
    | fail
    )
    exact ⟨by first | exact .inr rfl | exact .inr trivial | exact .inl rfl, by simp only [go_sem, Nat.reduceEqDiff, Nat.reduceAdd, Nat.reduceLeDiff, retOf, resOf, als, chs, List.map_nil]; first | done | rfl⟩
  · have hc1 := hc
    rw [if_neg (by rw [hc1]; simp)] at hres
    clear hc h371
    have hright : rightW l a = true ∧ timeB now = true := by
      unfold askedW at hc1
      by_cases h : (!rightW l a || !timeB now) = true
      · rw [if_pos h] at hc1; simp at hc1
      · simpa using h
    obtain ⟨hgood, hal64⟩ := right_good hright.1 haf
    have hl16 := ruled_len hright.1
    have htn := hright.2
    (repeat' first
    | refine w_seq ?_ | refine w_rg ?_ | refine wo_nil ?_ | refine g_skU ?_ | refine g_skT ?_ | refine g_skF ?_
    | ((first | apply s_plain | apply s_void | apply s_guard | apply g_goT | apply g_goF); · simp only [go_sem, Nat.reduceEqDiff, Nat.reduceAdd, Nat.reduceLeDiff, h9, h113]; (first | done | rfl))
    | ((first | apply g_T | apply g_F | apply g_gT | apply g_gF); · intro q1_; (first | intro q2_ | have q2_ := q1_); simp only [go_sem, Nat.reduceEqDiff, Nat.reduceAdd, Nat.reduceLeDiff, h9, h113, q1_, q2_]; (first | done | rfl))
    | (apply w_condX; · simp only [go_sem, Nat.reduceEqDiff, Nat.reduceAdd, Nat.reduceLeDiff, h9, h113]; (first | done | rfl)); (first | refine wcd_T ?_ | refine wcd_F ?_)
    | refine w_skip ?_ | refine w_exit ?_ | refine w_ret ?_
    | fail
    )
    refine w_condB (by simp only [go_sem, Nat.reduceEqDiff, Nat.reduceAdd, Nat.reduceLeDiff]; first | done | rfl) (fun hc => ?_) (fun hc => ?_)
    · have hb : badS s = true := by unfold badS; exact hc
      rw [if_pos hb] at hres
      simp only [Prod.mk.injEq] at hres
      obtain ⟨rfl, rfl, rfl⟩ := hres
      (repeat' first
    | refine w_seq ?_ | refine w_rg ?_ | refine wo_nil ?_ | refine g_skU ?_ | refine g_skT ?_ | refine g_skF ?_
    | ((first | apply s_plain | apply s_void | apply s_guard | apply g_goT | apply g_goF); · simp only [go_sem, Nat.reduceEqDiff, Nat.reduceAdd, Nat.reduceLeDiff]; (first | done | rfl))
    | ((first | apply g_T | apply g_F | apply g_gT | apply g_gF); · intro q1_; (first | intro q2_ | have q2_ := q1_); simp only [go_sem, Nat.reduceEqDiff, Nat.reduceAdd, Nat.reduceLeDiff, q1_, q2_]; (first | done | rfl))
    | (apply w_condX; · simp only [go_sem, Nat.reduceEqDiff, Nat.reduceAdd, Nat.reduceLeDiff]; (first | done | rfl)); (first | refine wcd_T ?_ | refine wcd_F ?_)
    | refine w_skip ?_ | refine w_exit ?_ | refine w_ret ?_
    | fail
    )
      exact ⟨by first | exact .inr rfl | exact .inr trivial | exact .inl rfl, by simp only [go_sem, Nat.reduceEqDiff, Nat.reduceAdd, Nat.reduceLeDiff, retOf, resOf, als, chs, List.map_nil]; first | done | rfl⟩
    · have hb : badS s = false := by unfold badS; exact hc
      rw [if_neg (by rw [hb]; simp)] at hres
      clear hc h9 h113
      (repeat' first
    | refine w_seq ?_ | refine w_rg ?_ | refine wo_nil ?_ | refine g_skU ?_ | refine g_skT ?_ | refine g_skF ?_
    | ((first | apply s_plain | apply s_void | apply s_guard | apply g_goT | apply g_goF); · simp only [go_sem, Nat.reduceEqDiff, Nat.reduceAdd, Nat.reduceLeDiff]; (first | done | rfl))
    | ((first | apply g_T | apply g_F | apply g_gT | apply g_gF); · intro q1_; (first | intro q2_ | have q2_ := q1_); simp only [go_sem, Nat.reduceEqDiff, Nat.reduceAdd, Nat.reduceLeDiff, q1_, q2_]; (first | done | rfl))
    | (apply w_condX; · simp only [go_sem, Nat.reduceEqDiff, Nat.reduceAdd, Nat.reduceLeDiff]; (first | done | rfl)); (first | refine wcd_T ?_ | refine wcd_F ?_)
    | refine w_skip ?_ | refine w_exit ?_ | refine w_ret ?_
    | fail
    )
      have hF0 : Fresh St.nil := fun o g h => by cases h
      refine s_clone (A := a) (E (372, .prim (cloneF 6 72)) (by simp [lwe])) (by simp only [go_sem, Nat.reduceEqDiff, Nat.reduceAdd, Nat.reduceLeDiff]) (by decide) (by omega) ((hF0.new _ _).new _ _) fun r1 τ1 hr1 hk1 hf1 => ?_
      have m6 := (hk1.m 2000006 0 (by decide) (by simp only [go_sem, Nat.reduceEqDiff, Nat.reduceAdd, Nat.reduceLeDiff])).trans (show _ = some (⟨3, [smp s], true, true⟩ : Obj) by simp only [go_sem, Nat.reduceEqDiff, Nat.reduceAdd, Nat.reduceLeDiff, smp])
      have c6 : 0 < τ1.c 2000006 := Nat.lt_of_lt_of_le (by simp only [go_sem, Nat.reduceEqDiff, Nat.reduceAdd, Nat.reduceLeDiff]) (hk1.c 2000006)
      have ok1 := hr1.ok
      (repeat' first
    | refine w_seq ?_ | refine w_rg ?_ | refine wo_nil ?_ | refine g_skU ?_ | refine g_skT ?_ | refine g_skF ?_
    | ((first | apply s_plain | apply s_void | apply s_guard | apply g_goT | apply g_goF); · simp only [go_sem, Nat.reduceEqDiff, Nat.reduceAdd, Nat.reduceLeDiff, hrl, ok1]; (first | done | rfl))
    | ((first | apply g_T | apply g_F | apply g_gT | apply g_gF); · intro q1_; (first | intro q2_ | have q2_ := q1_); simp only [go_sem, Nat.reduceEqDiff, Nat.reduceAdd, Nat.reduceLeDiff, hrl, ok1, q1_, q2_]; (first | done | rfl))
    | fail
    )
      have hw0 : WO (τ1.new 2000050 ⟨3, [.agg [r1, .em, .sc (.int .i64 now)]], true, true⟩) 2000050 (τ1.c 2000050) a [] now r1 .em :=
        ⟨hf1.new _ _, .inl rfl, by simp only [new_m, and_self, if_true], hr1.same hf1 fun o' g' h1 h2 => by simp only [new_m]; rw [if_neg (fun e => by rw [e.1] at h1; revert h1; decide)], Gat.em⟩
      generalize hg50 : τ1.c 2000050 = g50 at hw0
      refine w_block (w_rangeF l.length hn (fun i fr σ => ∃ (q : List Al × List Ch) (pA pC : PV), WO σ 2000050 g50 q.1 q.2 now pA pC ∧ (GoodA q.1 ∧ q.1.length ≤ 64 ∧ q.2.length ≤ i) ∧ goT s now (l.drop i) q = (RA, RC, re) ∧ (σ.m 2000006 0 = some ⟨3, [smp s], true, true⟩ ∧ 0 < σ.c 2000006)) ⟨by decide, rfl, rfl⟩ (fun _ _ _ _ h => ⟨h, h, h⟩)
        ⟨(a, []), r1, .em, hw0, ⟨hgood, hal64, Nat.zero_le _⟩, hres, by simp only [go_sem, Nat.reduceEqDiff, Nat.reduceAdd, Nat.reduceLeDiff, m6], by simp only [go_sem, Nat.reduceEqDiff, Nat.reduceAdd, Nat.reduceLeDiff]; exact c6⟩ (by simp only [go_sem, Nat.reduceEqDiff, Nat.reduceAdd, Nat.reduceLeDiff]; first | done | rfl) (by simp only [go_sem, Nat.reduceEqDiff, Nat.reduceAdd, Nat.reduceLeDiff, hrl]; first | done | rfl) ?_ ?_)
      · rintro i fr1 σ1 hi ⟨q, pA, pC, hw, ⟨hgq, hql, hqc⟩, hgo, m6, c6⟩ hti hfr
        have f0_6 := hfr 6 rfl; have f0_12 := hfr 12 rfl; have f0_51 := hfr 51 rfl; have f0_52 := hfr 52 rfl; try (simp only [go_sem, Nat.reduceEqDiff, Nat.reduceAdd, Nat.reduceLeDiff, hg50] at f0_6); try (simp only [go_sem, Nat.reduceEqDiff, Nat.reduceAdd, Nat.reduceLeDiff, hg50] at f0_12); try (simp only [go_sem, Nat.reduceEqDiff, Nat.reduceAdd, Nat.reduceLeDiff, hg50] at f0_51); try (simp only [go_sem, Nat.reduceEqDiff, Nat.reduceAdd, Nat.reduceLeDiff, hg50] at f0_52)
        have hx := List.getElem?_eq_getElem hi
        have hy := rules_at hx
        have e1 : (0 : Int) ≤ (i : Int) ∧ (i : Int) < (l.length : Int) := by omega
        have hrf := hf _ (List.getElem_mem hi)
        rw [goT_eq _ _ _ _ hi] at hgo
        generalize l[i] = r at hy hrf hgo
        have h109 := a109 B.la B.lc B.lf B.lg B.lo B.lp B.lq B.bits hrf hs.l hs.s
        unfold smp at m6
        unfold rule at hy h109
        refine w_block ?_
        (repeat' first
    | refine w_seq ?_ | refine w_rg ?_ | refine wo_nil ?_ | refine g_skU ?_ | refine g_skT ?_ | refine g_skF ?_
    | ((first | apply s_plain | apply s_void | apply s_guard | apply g_goT | apply g_goF); · simp only [go_sem, Nat.reduceEqDiff, Nat.reduceAdd, Nat.reduceLeDiff, f0_6, f0_12, f0_51, f0_52, hti, e1, hrl, Int.toNat_natCast, hy, m6, ba_beq]; (first | done | rfl))
    | ((first | apply g_T | apply g_F | apply g_gT | apply g_gF); · intro q1_; (first | intro q2_ | have q2_ := q1_); simp only [go_sem, Nat.reduceEqDiff, Nat.reduceAdd, Nat.reduceLeDiff, f0_6, f0_12, f0_51, f0_52, hti, e1, hrl, Int.toNat_natCast, hy, m6, ba_beq, q1_, q2_]; (first | done | rfl))
    | fail
    )
        refine w_condB (by simp only [go_sem, Nat.reduceEqDiff, Nat.reduceAdd, Nat.reduceLeDiff]; first | done | rfl) (fun hc => ?_) (fun hc => ?_)
        · have hd : decide (r.metric = s.metric) = false := by simpa using hc
          have he : errT s now q r = 0 := by unfold errT; rw [hd]; rfl
          have hst : stepT s now q r = q := by unfold stepT; rw [hd]; rfl
          rw [he, hst, if_neg (by decide)] at hgo
          (repeat' first
    | refine w_seq ?_ | refine w_rg ?_ | refine wo_nil ?_ | refine g_skU ?_ | refine g_skT ?_ | refine g_skF ?_
    | ((first | apply s_plain | apply s_void | apply s_guard | apply g_goT | apply g_goF); · simp only [go_sem, Nat.reduceEqDiff, Nat.reduceAdd, Nat.reduceLeDiff]; (first | done | rfl))
    | ((first | apply g_T | apply g_F | apply g_gT | apply g_gF); · intro q1_; (first | intro q2_ | have q2_ := q1_); simp only [go_sem, Nat.reduceEqDiff, Nat.reduceAdd, Nat.reduceLeDiff, q1_, q2_]; (first | done | rfl))
    | refine x_hit ?_ | refine x_miss (by decide) ?_
    | (apply w_condX; · simp only [go_sem, Nat.reduceEqDiff, Nat.reduceAdd, Nat.reduceLeDiff]; (first | done | rfl)); (first | refine wcd_T ?_ | refine wcd_F ?_)
    | refine w_skip ?_ | refine w_exit ?_ | refine w_ret ?_
    | fail
    )
          exact ⟨q, pA, pC, (hw.new _ _).put (by simp only [go_sem, Nat.reduceEqDiff, Nat.reduceAdd, Nat.reduceLeDiff]; rfl) (by decide) _, ⟨hgq, hql, by omega⟩, hgo, by simp only [go_sem, Nat.reduceEqDiff, Nat.reduceAdd, Nat.reduceLeDiff, m6, smp], by simp only [go_sem, Nat.reduceEqDiff, Nat.reduceAdd, Nat.reduceLeDiff]; exact c6⟩
        · have hd : decide (r.metric = s.metric) = true := by simpa using hc
          have hst : stepT s now q r = ruleW q.1 q.2 r (labelsR r s.labels).1 s.value now := by unfold stepT; rw [hd]; rfl
          have he : errT s now q r = (if (labelsR r s.labels).2 != 0 then (labelsR r s.labels).2 else if ((stepT s now q r).1.length : Int) > 64 then 13 else 0) := by unfold errT; rw [hd]; rfl
          clear hc
          (repeat' first
    | refine w_seq ?_ | refine w_rg ?_ | refine wo_nil ?_ | refine g_skU ?_ | refine g_skT ?_ | refine g_skF ?_
    | ((first | apply s_plain | apply s_void | apply s_guard | apply g_goT | apply g_goF); · simp only [go_sem, Nat.reduceEqDiff, Nat.reduceAdd, Nat.reduceLeDiff, f0_6, f0_12, f0_51, f0_52, h109, m6]; (first | done | rfl))
    | ((first | apply g_T | apply g_F | apply g_gT | apply g_gF); · intro q1_; (first | intro q2_ | have q2_ := q1_); simp only [go_sem, Nat.reduceEqDiff, Nat.reduceAdd, Nat.reduceLeDiff, f0_6, f0_12, f0_51, f0_52, h109, m6, q1_, q2_]; (first | done | rfl))
    | (apply w_condX; · simp only [go_sem, Nat.reduceEqDiff, Nat.reduceAdd, Nat.reduceLeDiff, f0_6, f0_12, f0_51, f0_52, h109, m6]; (first | done | rfl)); (first | refine wcd_T ?_ | refine wcd_F ?_)
    | refine w_skip ?_ | refine w_exit ?_ | refine w_ret ?_
    | fail
    )
          refine w_condB (by simp only [go_sem, Nat.reduceEqDiff, Nat.reduceAdd, Nat.reduceLeDiff]; first | done | rfl) (fun hc => ?_) (fun hc => ?_)
          · rw [he, if_pos hc, if_pos hc] at hgo
            simp only [Prod.mk.injEq] at hgo
            obtain ⟨rfl, rfl, rfl⟩ := hgo
            (repeat' first
    | refine w_seq ?_ | refine w_rg ?_ | refine wo_nil ?_ | refine g_skU ?_ | refine g_skT ?_ | refine g_skF ?_
    | ((first | apply s_plain | apply s_void | apply s_guard | apply g_goT | apply g_goF); · simp only [go_sem, Nat.reduceEqDiff, Nat.reduceAdd, Nat.reduceLeDiff]; (first | done | rfl))
    | ((first | apply g_T | apply g_F | apply g_gT | apply g_gF); · intro q1_; (first | intro q2_ | have q2_ := q1_); simp only [go_sem, Nat.reduceEqDiff, Nat.reduceAdd, Nat.reduceLeDiff, q1_, q2_]; (first | done | rfl))
    | (apply w_condX; · simp only [go_sem, Nat.reduceEqDiff, Nat.reduceAdd, Nat.reduceLeDiff]; (first | done | rfl)); (first | refine wcd_T ?_ | refine wcd_F ?_)
    | refine w_skip ?_ | refine w_exit ?_ | refine w_ret ?_
    | fail
    )
            exact ⟨by first | exact .inr rfl | exact .inr trivial | exact .inl rfl, by simp only [go_sem, Nat.reduceEqDiff, Nat.reduceAdd, Nat.reduceLeDiff, retOf, resOf, als, chs, List.map_nil]; first | done | rfl⟩
          · have hc2 : (labelsR r s.labels).2 = 0 := by simpa using hc
            rw [if_neg (by rw [hc]; simp)] at he
            have hrr := labelsR_right hc2
            have hff : (freshA r (labelsR r s.labels).1).Fits := ⟨hrf.n, by have := right_len hrr; show (labelsR r s.labels).1.length ≤ _; omega, right_smalls hrr⟩
            clear hc h109
            generalize (labelsR r s.labels).1 = ls at hst hff
            (repeat' first
    | refine w_seq ?_ | refine w_rg ?_ | refine wo_nil ?_ | refine g_skU ?_ | refine g_skT ?_ | refine g_skF ?_
    | ((first | apply s_plain | apply s_void | apply s_guard | apply g_goT | apply g_goF); · simp only [go_sem, Nat.reduceEqDiff, Nat.reduceAdd, Nat.reduceLeDiff, f0_6, f0_12, f0_51, f0_52, m6]; (first | done | rfl))
    | ((first | apply g_T | apply g_F | apply g_gT | apply g_gF); · intro q1_; (first | intro q2_ | have q2_ := q1_); simp only [go_sem, Nat.reduceEqDiff, Nat.reduceAdd, Nat.reduceLeDiff, f0_6, f0_12, f0_51, f0_52, m6, q1_, q2_]; (first | done | rfl))
    | (apply w_condX; · simp only [go_sem, Nat.reduceEqDiff, Nat.reduceAdd, Nat.reduceLeDiff, f0_6, f0_12, f0_51, f0_52, m6]; (first | done | rfl)); (first | refine wcd_T ?_ | refine wcd_F ?_)
    | refine w_skip ?_ | refine w_exit ?_ | refine w_ret ?_
    | fail
    )
            refine wos_j (fun fr τ => (fr 12 = .bx 2000050 g50 3 0 0 ∧ fr 72 = .bx 2000050 g50 3 0 0 ∧ fr 73 = rule r ∧ fr 74 = .sl (labs ls) ∧ fr 76 = .sc (.int .i64 s.value)) ∧ WO τ 2000050 g50 q.1 q.2 now pA pC ∧ (τ.m 2000006 0 = some ⟨3, [smp s], true, true⟩ ∧ 0 < τ.c 2000006))
              ⟨⟨by simp only [go_sem, Nat.reduceEqDiff, Nat.reduceAdd, Nat.reduceLeDiff, f0_6, f0_12, f0_51, f0_52], by simp only [go_sem, Nat.reduceEqDiff, Nat.reduceAdd, Nat.reduceLeDiff, f0_6, f0_12, f0_51, f0_52], by simp only [go_sem, Nat.reduceEqDiff, Nat.reduceAdd, Nat.reduceLeDiff, rule], by simp only [go_sem, Nat.reduceEqDiff, Nat.reduceAdd, Nat.reduceLeDiff], by simp only [go_sem, Nat.reduceEqDiff, Nat.reduceAdd, Nat.reduceLeDiff]⟩, (hw.new _ _).put (by simp only [go_sem, Nat.reduceEqDiff, Nat.reduceAdd, Nat.reduceLeDiff]; rfl) (by decide) _, by simp only [go_sem, Nat.reduceEqDiff, Nat.reduceAdd, Nat.reduceLeDiff, m6, smp], by simp only [go_sem, Nat.reduceEqDiff, Nat.reduceAdd, Nat.reduceLeDiff]; exact c6⟩ ?_
            clear hw m6 c6 hfr hti
            rintro fr2 σ2 ⟨⟨f12, f72, f73, f74, f76⟩, hw, m6, c6⟩
            obtain ⟨τ, q1, q2, pA2, pC2, q3⟩ := a373 B W V D (v := s.value) hw hgq.s hgq.f hgq.t (by omega) (by omega) htn hrf hff
            rw [← hst] at q3
            have hg2 := ruleW_good (C := q.2) (r := r) (ls := ls) (v := s.value) (now := now) hgq hff htn
            rw [← hst] at hg2
            generalize stepT s now q r = q' at hst he hgo q3 hg2
            refine s_callO (by simp only [go_sem, Nat.reduceEqDiff, Nat.reduceAdd, Nat.reduceLeDiff, f72, f73, f74, f76]; exact q1) ?_
            have m62 := (q2.m 2000006 0 (by decide) (by simp) c6).trans m6
            have c62 := Nat.lt_of_lt_of_le c6 (q2.c 2000006)
            have hm3 := q3.hm
            have hln := q3.ha.lenP
            rw [als_len] at hln
            (repeat' first
    | refine w_seq ?_ | refine w_rg ?_ | refine wo_nil ?_ | refine g_skU ?_ | refine g_skT ?_ | refine g_skF ?_
    | ((first | apply s_plain | apply s_void | apply s_guard | apply g_goT | apply g_goF); · simp only [go_sem, Nat.reduceEqDiff, Nat.reduceAdd, Nat.reduceLeDiff, f12, hm3, hln]; (first | done | rfl))
    | ((first | apply g_T | apply g_F | apply g_gT | apply g_gF); · intro q1_; (first | intro q2_ | have q2_ := q1_); simp only [go_sem, Nat.reduceEqDiff, Nat.reduceAdd, Nat.reduceLeDiff, f12, hm3, hln, q1_, q2_]; (first | done | rfl))
    | fail
    )
            refine w_condB (by simp only [go_sem, Nat.reduceEqDiff, Nat.reduceAdd, Nat.reduceLeDiff]; first | done | rfl) (fun hc => ?_) (fun hc => ?_)
            · have h64 : (q'.1.length : Int) > 64 := by simpa using hc
              rw [he, if_pos h64, if_pos (by decide)] at hgo
              simp only [Prod.mk.injEq] at hgo
              obtain ⟨rfl, rfl, rfl⟩ := hgo
              (repeat' first
    | refine w_seq ?_ | refine w_rg ?_ | refine wo_nil ?_ | refine g_skU ?_ | refine g_skT ?_ | refine g_skF ?_
    | ((first | apply s_plain | apply s_void | apply s_guard | apply g_goT | apply g_goF); · simp only [go_sem, Nat.reduceEqDiff, Nat.reduceAdd, Nat.reduceLeDiff]; (first | done | rfl))
    | ((first | apply g_T | apply g_F | apply g_gT | apply g_gF); · intro q1_; (first | intro q2_ | have q2_ := q1_); simp only [go_sem, Nat.reduceEqDiff, Nat.reduceAdd, Nat.reduceLeDiff, q1_, q2_]; (first | done | rfl))
    | (apply w_condX; · simp only [go_sem, Nat.reduceEqDiff, Nat.reduceAdd, Nat.reduceLeDiff]; (first | done | rfl)); (first | refine wcd_T ?_ | refine wcd_F ?_)
    | refine w_skip ?_ | refine w_exit ?_ | refine w_ret ?_
    | fail
    )
              exact ⟨by first | exact .inr rfl | exact .inr trivial | exact .inl rfl, by simp only [go_sem, Nat.reduceEqDiff, Nat.reduceAdd, Nat.reduceLeDiff, retOf, resOf, als, chs, List.map_nil]; first | done | rfl⟩
            · have h64 : ¬ (q'.1.length : Int) > 64 := by simpa using hc
              rw [he, if_neg h64, if_neg (by decide)] at hgo
              (repeat' first
    | refine w_seq ?_ | refine w_rg ?_ | refine wo_nil ?_ | refine g_skU ?_ | refine g_skT ?_ | refine g_skF ?_
    | ((first | apply s_plain | apply s_void | apply s_guard | apply g_goT | apply g_goF); · simp only [go_sem, Nat.reduceEqDiff, Nat.reduceAdd, Nat.reduceLeDiff]; (first | done | rfl))
    | ((first | apply g_T | apply g_F | apply g_gT | apply g_gF); · intro q1_; (first | intro q2_ | have q2_ := q1_); simp only [go_sem, Nat.reduceEqDiff, Nat.reduceAdd, Nat.reduceLeDiff, q1_, q2_]; (first | done | rfl))
    | (apply w_condX; · simp only [go_sem, Nat.reduceEqDiff, Nat.reduceAdd, Nat.reduceLeDiff]; (first | done | rfl)); (first | refine wcd_T ?_ | refine wcd_F ?_)
    | refine w_skip ?_ | refine w_exit ?_ | refine w_ret ?_
    | fail
    )
              exact ⟨q', pA2, pC2, q3, ⟨hg2.1, by omega, by omega⟩, hgo, m62, c62⟩
      · rintro fr1 σ1 ⟨q, pA, pC, hw, ⟨hgq, hql, hqc⟩, hgo, m6, c6⟩ hfr
        have e0_12 := hfr 12 rfl; try (simp only [go_sem, Nat.reduceEqDiff, Nat.reduceAdd, Nat.reduceLeDiff, hg50] at e0_12)
        try simp only [if_true]
        rw [List.drop_length] at hgo
        have hgo : (q.1, q.2, (0 : Int)) = (RA, RC, re) := hgo
        simp only [Prod.mk.injEq] at hgo
        obtain ⟨rfl, rfl, rfl⟩ := hgo
        have hm := hw.hm
        have hz1 := hw.ha.fz (d := 10) (als_fz σ1 8 q.1)
        have hz2 := gat_fzd hw.hc (d := 10) (chs_fz σ1 8 q.2)
        (repeat' first
    | refine w_seq ?_ | refine w_rg ?_ | refine wo_nil ?_ | refine g_skU ?_ | refine g_skT ?_ | refine g_skF ?_
    | ((first | apply s_plain | apply s_void | apply s_guard | apply g_goT | apply g_goF); · simp only [go_sem, Nat.reduceEqDiff, Nat.reduceAdd, Nat.reduceLeDiff, e0_12, hm]; (first | done | rfl))
    | ((first | apply g_T | apply g_F | apply g_gT | apply g_gF); · intro q1_; (first | intro q2_ | have q2_ := q1_); simp only [go_sem, Nat.reduceEqDiff, Nat.reduceAdd, Nat.reduceLeDiff, e0_12, hm, q1_, q2_]; (first | done | rfl))
    | (apply w_condX; · simp only [go_sem, Nat.reduceEqDiff, Nat.reduceAdd, Nat.reduceLeDiff, e0_12, hm]; (first | done | rfl)); (first | refine wcd_T ?_ | refine wcd_F ?_)
    | refine w_skip ?_ | refine w_exit ?_ | refine w_ret ?_
    | fail
    )
        exact ⟨by first | exact .inr rfl | exact .inr trivial | exact .inl rfl, by simp only [go_sem, Nat.reduceEqDiff, Nat.reduceAdd, Nat.reduceLeDiff, retOf, resOf, hz1, hz2]; first | done | rfl⟩
end

end
end Go.Proofs.YtcpgkdaicglogaaGreatDoorPv
