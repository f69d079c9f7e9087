/-
Texts of sets of labels.
-/
import Derived.Test.YtjijlmfhnkipmaaDoorPvSs
namespace Go.Proofs.YtjijlmfhnkipmaaDoorPv
open Go
set_option linter.unusedSimpArgs false
set_option linter.unusedVariables false
set_option maxHeartbeats 4000000
attribute [local go_sem ↓] e_mv e_pick e_bin e_eqs e_beq e_un e_cvi e_str e_s2b e_b2s e_box e_build e_bsl e_ld e_st e_nck e_mkf e_slcS e_slcL e_fa e_fld e_ia e_iaa e_ix e_ixa e_ext e_lenS e_lenL e_mnmx e_app e_msl e_clr e_call e_callv pa_t pa_c pa_f slcSP_str hiOf_some hiOf_none loOf_some loOf_none set_eq set_ne
attribute [local go_sem] pv pv1 simple frOf_0 frOf_1 frOf_2 frOf_3 frOf_4 frOf_5 ne_eq not_false_eq_true if_true Bool.false_eq_true if_false pbin punary Option.map_some Option.bind_some pick_and pick_or opt_true Bool.true_and Bool.and_self Bool.and_true Bool.true_or Bool.false_or Bool.not_true Bool.not_false callE pcall_eq List.map_cons List.map_nil List.append_nil List.nil_append List.cons_append mapM_cons' mapM_nil' dep_eq fz_sc fz_sl fz_em fz_fn fz_fp fz_agg fz_bx fz_ob Nat.lt_irrefl Nat.zero_lt_one Nat.lt_add_one flat clL cl Bool.or_true okc cells_agg cells_sc cells_sl cells_em cells_ob cells_fn cells_bx cells_fp List.length_cons List.length_nil Nat.zero_add and_self true_and and_true new_m new_c put_m put_c nil_m nil_c deref List.getElem?_cons_zero List.getElem?_cons_succ List.drop_zero List.drop_succ_cons List.take_succ_cons List.take_zero Nat.le_refl false_and and_false
set_option maxRecDepth 8000

/-- (transhipment/label.mark).text -/
def d176 : Def := (.code 1 [.tmp 2] (.seq (.rg false [⟨.some 1, .none, .box (.t 0)⟩, ⟨.some 2, .none, .mv (.c (.string ⟨#[]⟩))⟩]) (.seq (.rg true [⟨.some 3, .none, .fa 0 (.t 1)⟩, ⟨.some 4, .none, .ld .none (.t 3)⟩, ⟨.some 5, .none, .bin .add (.t 4) (.c (.string ⟨#[61, 34]⟩))⟩, ⟨.some 6, .none, .fa 1 (.t 1)⟩, ⟨.some 7, .none, .ld .none (.t 6)⟩, ⟨.some 8, .none, .call 215 .strict [.t 7, .c (.string ⟨#[92]⟩), .c (.string ⟨#[92, 92]⟩)]⟩, ⟨.some 9, .none, .call 215 .strict [.t 8, .c (.string ⟨#[34]⟩), .c (.string ⟨#[92, 34]⟩)]⟩, ⟨.some 10, .none, .bin .add (.t 5) (.t 9)⟩, ⟨.some 11, .none, .bin .add (.t 10) (.c (.string ⟨#[34]⟩))⟩, ⟨.some 2, .none, .mv (.t 11)⟩]) .ret)))
/-- transhipment/label.Text -/
def d202 : Def := (.code 1 [.tmp 2, .tmp 3] (.seq (.rg false [⟨.some 2, .none, .mv (.c (.string ⟨#[]⟩))⟩, ⟨.some 3, .none, .mv (.c (.int .i64 0))⟩]) (.seq (.seq (.rg false [⟨.some 7, .none, .mv (.t 0)⟩, ⟨.some 8, .none, .call 113 .pure [.t 7]⟩, ⟨.some 9, .none, .un .not (.t 8)⟩]) (.cond (.t 9) (.seq (.rg false [⟨.some 2, .none, .mv (.c (.string ⟨#[]⟩))⟩, ⟨.some 3, .none, .mv (.c (.int .i64 1))⟩]) .ret) .skip)) (.seq (.rg false [⟨.some 4, .none, .mv (.c (.slice .none 0 0))⟩]) (.seq (.seq (.rg false [⟨.some 10, .none, .mv (.t 0)⟩, ⟨.some 11, .none, .call 134 .opn [.t 10]⟩, ⟨.some 12, .none, .lenL (.t 11)⟩, ⟨.some 13, .none, .mv (.c (.int .i64 0))⟩]) (.block 0 (.loop (.seq (.rg false [⟨.some 14, .none, .bin .lss (.t 13) (.t 12)⟩]) (.seq (.cond (.t 14) .skip (.exit 0)) (.seq (.block 1 (.seq (.rg false [⟨.some 15, .none, .ia 2 (.t 11) (.t 13)⟩, ⟨.some 16, .none, .ld (.some 2) (.t 15)⟩, ⟨.some 6, .none, .box (.c (.agg #[.string ⟨#[]⟩, .string ⟨#[]⟩]))⟩, ⟨.none, .none, .st 2 (.t 6) (.t 16)⟩]) (.rg false [⟨.some 17, .none, .mv (.t 4)⟩, ⟨.some 18, .none, .ld (.some 2) (.t 6)⟩, ⟨.some 19, .none, .call 176 .pure [.t 18]⟩, ⟨.some 20, .none, .bsl 1 (.string ⟨#[]⟩) 1 [(0, .t 19)]⟩, ⟨.some 21, .none, .app 1 16 false (.t 17) (.t 20)⟩, ⟨.some 4, .none, .mv (.t 21)⟩]))) (.rg false [⟨.some 22, .none, .bin .add (.t 13) (.c (.int .i64 1))⟩, ⟨.some 13, .none, .mv (.t 22)⟩]))))))) (.seq (.rg false [⟨.some 23, .none, .mv (.t 4)⟩, ⟨.some 24, .none, .call 23 .pure [.t 23, .c (.string ⟨#[44]⟩)]⟩, ⟨.some 25, .none, .bin .add (.c (.string ⟨#[123]⟩)) (.t 24)⟩, ⟨.some 26, .none, .bin .add (.t 25) (.c (.string ⟨#[125]⟩))⟩, ⟨.some 2, .none, .mv (.t 26)⟩, ⟨.some 3, .none, .mv (.c (.int .i64 0))⟩]) .ret))))))
/-- transhipment/transhipmentref03.Text -/
def d211 : Def := (.code 1 [.tmp 2] (.seq (.rg false [⟨.some 2, .none, .mv (.c (.string ⟨#[]⟩))⟩]) (.seq (.rg false [⟨.some 7, .none, .bsl 1 (.int .u8 0) 1 [(0, .c (.int .u8 123))]⟩, ⟨.some 3, .none, .mv (.t 7)⟩]) (.seq (.seq (.rg false [⟨.some 8, .none, .mv (.t 0)⟩, ⟨.some 9, .none, .lenL (.t 8)⟩, ⟨.some 10, .none, .mv (.c (.int .i64 0))⟩]) (.block 0 (.loop (.seq (.rg false [⟨.some 11, .none, .bin .lss (.t 10) (.t 9)⟩]) (.seq (.cond (.t 11) .skip (.exit 0)) (.seq (.block 1 (.seq (.rg false [⟨.some 12, .none, .mv (.t 10)⟩, ⟨.some 13, .none, .ia 2 (.t 8) (.t 10)⟩, ⟨.some 14, .none, .ld (.some 2) (.t 13)⟩, ⟨.some 5, .none, .box (.c (.agg #[.string ⟨#[]⟩, .string ⟨#[]⟩]))⟩, ⟨.some 4, .none, .mv (.t 12)⟩, ⟨.none, .none, .st 2 (.t 5) (.t 14)⟩]) (.seq (.seq (.rg false [⟨.some 15, .none, .mv (.t 4)⟩, ⟨.some 16, .none, .bin .gtr (.t 15) (.c (.int .i64 0))⟩]) (.cond (.t 16) (.rg false [⟨.some 17, .none, .mv (.t 3)⟩, ⟨.some 18, .none, .bsl 1 (.int .u8 0) 1 [(0, .c (.int .u8 44))]⟩, ⟨.some 19, .none, .app 1 1 false (.t 17) (.t 18)⟩, ⟨.some 3, .none, .mv (.t 19)⟩]) .skip)) (.seq (.rg false [⟨.some 20, .none, .mv (.t 3)⟩, ⟨.some 21, .none, .fa 0 (.t 5)⟩, ⟨.some 22, .none, .ld .none (.t 21)⟩, ⟨.some 23, .none, .s2b (.t 22)⟩, ⟨.some 24, .none, .app 1 1 false (.t 20) (.t 23)⟩, ⟨.some 3, .none, .mv (.t 24)⟩]) (.seq (.rg false [⟨.some 25, .none, .mv (.t 3)⟩, ⟨.some 26, .none, .bsl 1 (.int .u8 0) 2 [(0, .c (.int .u8 61)), (1, .c (.int .u8 34))]⟩, ⟨.some 27, .none, .app 1 1 false (.t 25) (.t 26)⟩, ⟨.some 3, .none, .mv (.t 27)⟩]) (.seq (.seq (.rg false [⟨.some 6, .none, .mv (.c (.int .i64 0))⟩]) (.block 2 (.loop (.seq (.seq (.rg false [⟨.some 28, .none, .mv (.t 6)⟩, ⟨.some 29, .none, .fa 1 (.t 5)⟩, ⟨.some 30, .none, .ld .none (.t 29)⟩, ⟨.some 31, .none, .lenS (.t 30)⟩, ⟨.some 32, .none, .bin .lss (.t 28) (.t 31)⟩]) (.cond (.t 32) .skip (.exit 2))) (.seq (.block 3 (.seq (.seq (.rg false [⟨.some 35, .none, .fa 1 (.t 5)⟩, ⟨.some 36, .none, .ld .none (.t 35)⟩, ⟨.some 37, .none, .mv (.t 6)⟩, ⟨.some 38, .none, .ix (.t 36) (.t 37)⟩, ⟨.some 39, .none, .bin .eql (.t 38) (.c (.int .u8 34))⟩, ⟨.some 40, .none, .mv (.t 39)⟩, ⟨.some 41, .some (40, false), .fa 1 (.t 5)⟩, ⟨.some 42, .some (40, false), .ld .none (.t 41)⟩, ⟨.some 43, .some (40, false), .mv (.t 6)⟩, ⟨.some 44, .some (40, false), .ix (.t 42) (.t 43)⟩, ⟨.some 45, .some (40, false), .bin .eql (.t 44) (.c (.int .u8 92))⟩, ⟨.some 46, .none, .pick (.t 40) (.c (.bool true)) (.t 45)⟩]) (.cond (.t 46) (.rg false [⟨.some 47, .none, .mv (.t 3)⟩, ⟨.some 48, .none, .bsl 1 (.int .u8 0) 1 [(0, .c (.int .u8 92))]⟩, ⟨.some 49, .none, .app 1 1 false (.t 47) (.t 48)⟩, ⟨.some 3, .none, .mv (.t 49)⟩]) .skip)) (.rg false [⟨.some 50, .none, .mv (.t 3)⟩, ⟨.some 51, .none, .fa 1 (.t 5)⟩, ⟨.some 52, .none, .ld .none (.t 51)⟩, ⟨.some 53, .none, .mv (.t 6)⟩, ⟨.some 54, .none, .ix (.t 52) (.t 53)⟩, ⟨.some 55, .none, .bsl 1 (.int .u8 0) 1 [(0, .t 54)]⟩, ⟨.some 56, .none, .app 1 1 false (.t 50) (.t 55)⟩, ⟨.some 3, .none, .mv (.t 56)⟩]))) (.rg false [⟨.some 33, .none, .mv (.t 6)⟩, ⟨.some 34, .none, .bin .add (.t 33) (.c (.int .i64 1))⟩, ⟨.some 6, .none, .mv (.t 34)⟩])))))) (.rg false [⟨.some 57, .none, .mv (.t 3)⟩, ⟨.some 58, .none, .bsl 1 (.int .u8 0) 1 [(0, .c (.int .u8 34))]⟩, ⟨.some 59, .none, .app 1 1 false (.t 57) (.t 58)⟩, ⟨.some 3, .none, .mv (.t 59)⟩]))))))) (.rg false [⟨.some 60, .none, .bin .add (.t 10) (.c (.int .i64 1))⟩, ⟨.some 10, .none, .mv (.t 60)⟩]))))))) (.seq (.rg false [⟨.some 61, .none, .mv (.t 3)⟩, ⟨.some 62, .none, .bsl 1 (.int .u8 0) 1 [(0, .c (.int .u8 125))]⟩, ⟨.some 63, .none, .app 1 1 false (.t 61) (.t 62)⟩, ⟨.some 3, .none, .mv (.t 63)⟩]) (.seq (.rg false [⟨.some 64, .none, .mv (.t 3)⟩, ⟨.some 65, .none, .b2s (.t 64)⟩, ⟨.some 2, .none, .mv (.t 65)⟩]) .ret))))))

def lu : List (Nat × Def) := [(176, d176), (202, d202), (211, d211), (23, .prim joinF), (215, .prim replF)]

section
variable {env : Nat → Option Def} {fr : Fr} {σ σ' : St} {K : Fr → St → Prop} {Q : X → Fr → St → Prop}

/-! ### a byte that is replaced -/
def rep1 (c : UInt8) (new : List UInt8) (s : List UInt8) : List UInt8 := s.flatMap fun b => if b = c then new else [b]

theorem idx_none {c : UInt8} {new : List UInt8} : ∀ {s : List UInt8}, Lib.index s [c] = -1 → rep1 c new s = s
  | [], _ => rfl
  | b :: l, h => by
    unfold Lib.index at h
    by_cases hb : b = c
    · subst hb; simp at h
    · have hp : [c].isPrefixOf (b :: l) = false := by simp [List.isPrefixOf, Ne.symm hb]
      rw [hp] at h
      simp only [Bool.false_eq_true, if_false] at h
      have h2 : Lib.index l [c] = -1 := by
        split at h
        · rename_i h3; simpa using h3
        · have := Lib.index_ge l [c]; rename_i h3; omega
      have := idx_none (new := new) h2
      unfold rep1 at this ⊢
      simp [hb, this]

theorem idx_some {c : UInt8} {new : List UInt8} : ∀ {s : List UInt8} {i : Nat}, Lib.index s [c] = i → s.take i ++ new ++ rep1 c new (s.drop (i + 1)) = rep1 c new s
  | [], i, h => by simp [Lib.index] at h
  | b :: l, i, h => by
    unfold Lib.index at h
    by_cases hb : b = c
    · subst hb
      have hp : [b].isPrefixOf (b :: l) = true := by simp [List.isPrefixOf]
      rw [hp, if_pos rfl] at h
      have : i = 0 := by omega
      subst this
      simp [rep1]
    · have hp : [c].isPrefixOf (b :: l) = false := by simp [List.isPrefixOf, Ne.symm hb]
      rw [hp] at h
      simp only [Bool.false_eq_true, if_false] at h
      split at h
      · omega
      · rename_i h3
        have hge := Lib.index_ge l [c]
        have hne : Lib.index l [c] ≠ -1 := by simpa using h3
        obtain ⟨j, rfl⟩ : ∃ j, i = j + 1 := ⟨i - 1, by omega⟩
        have := idx_some (c := c) (new := new) (s := l) (i := j) (by omega)
        unfold rep1 at this ⊢
        simp only [List.take_succ_cons, List.drop_succ_cons, List.flatMap_cons, hb, if_false, List.cons_append, List.nil_append]
        rw [← this]

theorem replaceK_one {c : UInt8} {new : List UInt8} : ∀ (n : Nat) (s : List UInt8), s.length < n → Lib.replaceK [c] new (Lib.countFrom [c] n s) s = rep1 c new s
  | 0, s, h => by omega
  | n + 1, s, h => by
    unfold Lib.countFrom
    by_cases hi : Lib.index s [c] = -1
    · rw [if_pos (by simpa using hi)]
      exact (idx_none hi).symm
    · have hge := Lib.index_ge s [c]
      obtain ⟨i, hi'⟩ : ∃ i : Nat, Lib.index s [c] = i := ⟨(Lib.index s [c]).toNat, by omega⟩
      rw [if_neg (by simpa using hi), Nat.add_comm, Lib.replaceK_hit [c] new _ s i hi', hi', Int.toNat_natCast]
      have hroom := Lib.index_room s [c] (by omega)
      have hlen : (s.drop (i + [c].length)).length < n := by
        simp only [List.length_drop, List.length_cons, List.length_nil] at hroom ⊢
        omega
      rw [replaceK_one n _ hlen]
      exact idx_some hi'

theorem replaceAll_one {c : UInt8} {new : List UInt8} (hne : new ≠ [c]) (s : List UInt8) : Lib.replaceAll s [c] new = rep1 c new s := by
  unfold Lib.replaceAll Lib.replace
  have h1 : ([c] == new) = false := by simpa using Ne.symm hne
  rw [h1]
  simp only [Bool.false_eq_true, if_false]
  have h2 : Lib.replaceNum s [c] (-1) = Lib.count s [c] := by unfold Lib.replaceNum; rw [if_pos (.inl (by decide))]
  rw [h2]
  exact replaceK_one _ s (by omega)

def esc (s : List UInt8) : List UInt8 := s.flatMap fun b => if b = 34 ∨ b = 92 then [92, b] else [b]

theorem esc_two (s : List UInt8) : rep1 34 [92, 34] (rep1 92 [92, 92] s) = esc s := by
  unfold rep1 esc
  rw [List.flatMap_assoc]
  congr 1
  funext b
  by_cases h1 : b = 92
  · subst h1; decide
  · by_cases h2 : b = 34
    · subst h2; decide
    · simp [h1, h2]

theorem rep1_len {c : UInt8} {new : List UInt8} (hn : new.length ≤ 2) (s : List UInt8) : (rep1 c new s).length ≤ 2 * s.length := by
  unfold rep1
  induction s with
  | nil => simp
  | cons b l ih =>
    simp only [List.flatMap_cons, List.length_append, List.length_cons]
    split
    · omega
    · simp only [List.length_cons, List.length_nil]; omega

theorem esc_len (s : List UInt8) : (esc s).length ≤ 2 * s.length := by
  unfold esc
  induction s with
  | nil => simp
  | cons b l ih =>
    simp only [List.flatMap_cons, List.length_append, List.length_cons]
    split
    · simp only [List.length_cons, List.length_nil]; omega
    · simp only [List.length_cons, List.length_nil]; omega

def escS (s : ByteArray) : ByteArray := ⟨(esc s.data.toList).toArray⟩

theorem a215 (U : Has lu env) {s old new : ByteArray} (h : s.size < 4294967281 ∧ 1 ≤ old.size ∧ s.size + Lib.countB s old * new.size ≤ 140737488355328) :
    AV env 215 [.sc (.string s), .sc (.string old), .sc (.string new)] = some (.sc (.string ⟨(Lib.replaceAll s.data.toList old.data.toList new.data.toList).toArray⟩)) := by
  have hp := U (215, .prim replF) (by simp [lu])
  refine AV_of (σ := St.nil) (r := .sc (.string ⟨(Lib.replaceAll s.data.toList old.data.toList new.data.toList).toArray⟩)) (EV_of (n := 1) ?_) rfl
  simp only [evF, hp, replF]
  rw [if_pos h]

theorem a215a (U : Has lu env) {s : ByteArray} (hs : s.size ≤ 1000) : AV env 215 [.sc (.string s), .sc (.string ⟨#[92]⟩), .sc (.string ⟨#[92, 92]⟩)] = some (.sc (.string ⟨(rep1 92 [92, 92] s.data.toList).toArray⟩)) := by
  have hc := Lib.countB_le ⟨#[92]⟩ (by decide) s.size s (Nat.le_refl _)
  have h := a215 U (s := s) (old := ⟨#[92]⟩) (new := ⟨#[92, 92]⟩) ⟨by omega, by decide, by
    have : (⟨#[92, 92]⟩ : ByteArray).size = 2 := rfl
    rw [this]; omega⟩
  rw [h]
  have : Lib.replaceAll s.data.toList (⟨#[92]⟩ : ByteArray).data.toList (⟨#[92, 92]⟩ : ByteArray).data.toList = rep1 92 [92, 92] s.data.toList := replaceAll_one (by decide) _
  rw [this]

theorem a215b (U : Has lu env) {s : ByteArray} (hs : s.size ≤ 1000) : AV env 215 [.sc (.string s), .sc (.string ⟨#[34]⟩), .sc (.string ⟨#[92, 34]⟩)] = some (.sc (.string ⟨(rep1 34 [92, 34] s.data.toList).toArray⟩)) := by
  have hc := Lib.countB_le ⟨#[34]⟩ (by decide) s.size s (Nat.le_refl _)
  have h := a215 U (s := s) (old := ⟨#[34]⟩) (new := ⟨#[92, 34]⟩) ⟨by omega, by decide, by
    have : (⟨#[92, 34]⟩ : ByteArray).size = 2 := rfl
    rw [this]; omega⟩
  rw [h]
  have : Lib.replaceAll s.data.toList (⟨#[34]⟩ : ByteArray).data.toList (⟨#[92, 34]⟩ : ByteArray).data.toList = rep1 34 [92, 34] s.data.toList := replaceAll_one (by decide) _
  rw [this]

/-- A label, as it stands in a text. -/
def markS (m : Lab) : ByteArray := ((m.1 ++ ⟨#[61, 34]⟩) ++ escS m.2) ++ ⟨#[34]⟩

theorem a176 (U : Has lu env) {m : Lab} (h1 : m.1.size ≤ 64) (h2 : m.2.size ≤ 64) : AV env 176 [lab m] = some (.sc (.string (markS m))) := by
  have ha := a215a U (s := m.2) (by omega)
  have l1 := rep1_len (c := 92) (new := [92, 92]) (by decide) m.2.data.toList
  have l0 : m.2.data.toList.length = m.2.size := by simp
  have s1 : (⟨(rep1 92 [92, 92] m.2.data.toList).toArray⟩ : ByteArray).size = (rep1 92 [92, 92] m.2.data.toList).length := by simp [ByteArray.size]
  have hb := a215b U (s := ⟨(rep1 92 [92, 92] m.2.data.toList).toArray⟩) (by omega)
  have e1 : (⟨(rep1 34 [92, 34] (⟨(rep1 92 [92, 92] m.2.data.toList).toArray⟩ : ByteArray).data.toList).toArray⟩ : ByteArray) = escS m.2 := by
    unfold escS
    rw [← esc_two]
  rw [e1] at hb
  have l2 := esc_len m.2.data.toList
  have s2 : (escS m.2).size = (esc m.2.data.toList).length := by simp [escS, ByteArray.size]
  have q1 : m.1.size + (⟨#[61, 34]⟩ : ByteArray).size ≤ 9223372036854775807 := by
    have : (⟨#[61, 34]⟩ : ByteArray).size = 2 := rfl
    omega
  have q2 : (m.1 ++ ⟨#[61, 34]⟩).size + (escS m.2).size ≤ 9223372036854775807 := by
    rw [ByteArray.size_append]
    have : (⟨#[61, 34]⟩ : ByteArray).size = 2 := rfl
    omega
  have q3 : ((m.1 ++ ⟨#[61, 34]⟩) ++ escS m.2).size + (⟨#[34]⟩ : ByteArray).size ≤ 9223372036854775807 := by
    rw [ByteArray.size_append, ByteArray.size_append]
    have : (⟨#[61, 34]⟩ : ByteArray).size = 2 := rfl
    have : (⟨#[34]⟩ : ByteArray).size = 1 := rfl
    omega
  refine AV_wp (U (176, d176) (by simp [lu])) rfl ?_
  unfold lab
  (repeat' first
    | refine w_seq ?_
    | refine w_rg ?_
    | refine wo_nil ?_
    | refine s_plain (by simp only [go_sem, Nat.reduceEqDiff, Nat.reduceAdd, Nat.reduceLeDiff, ha, hb, q1, q2, q3]; first | done | rfl) ?_
    | refine s_void (by simp only [go_sem, Nat.reduceEqDiff, Nat.reduceAdd, Nat.reduceLeDiff, ha, hb, q1, q2, q3]; first | done | rfl) ?_
    | refine s_guard (by simp only [go_sem, Nat.reduceEqDiff, Nat.reduceAdd, Nat.reduceLeDiff, ha, hb, q1, q2, q3]; first | done | rfl) ?_
    | refine g_skU ?_
    | refine g_T (by intro hb; simp only [go_sem, Nat.reduceEqDiff, Nat.reduceAdd, Nat.reduceLeDiff, ha, hb, q1, q2, q3, hb]; first | done | rfl) ?_
    | refine g_F (by intro hb; simp only [go_sem, Nat.reduceEqDiff, Nat.reduceAdd, Nat.reduceLeDiff, ha, hb, q1, q2, q3, hb]; first | done | rfl) ?_
    | refine g_gT (by intro hb hc; simp only [go_sem, Nat.reduceEqDiff, Nat.reduceAdd, Nat.reduceLeDiff, ha, hb, q1, q2, q3, hb, hc]; first | done | rfl) ?_
    | refine g_gF (by intro hb hc; simp only [go_sem, Nat.reduceEqDiff, Nat.reduceAdd, Nat.reduceLeDiff, ha, hb, q1, q2, q3, hb, hc]; first | done | rfl) ?_
    | refine g_skT ?_
    | refine g_skF ?_
    | refine g_goT (by simp only [go_sem, Nat.reduceEqDiff, Nat.reduceAdd, Nat.reduceLeDiff, ha, hb, q1, q2, q3]; first | done | rfl) ?_
    | refine g_goF (by simp only [go_sem, Nat.reduceEqDiff, Nat.reduceAdd, Nat.reduceLeDiff, ha, hb, q1, q2, q3]; first | done | rfl) ?_
    | refine w_condT (by simp only [go_sem, Nat.reduceEqDiff, Nat.reduceAdd, Nat.reduceLeDiff, ha, hb, q1, q2, q3]; first | done | rfl) ?_
    | refine w_condF (by simp only [go_sem, Nat.reduceEqDiff, Nat.reduceAdd, Nat.reduceLeDiff, ha, hb, q1, q2, q3]; first | done | rfl) ?_
    | refine w_skip ?_
    | refine w_exit ?_
    | refine w_ret ?_
    )
  exact ⟨.inr rfl, by simp only [go_sem, Nat.reduceEqDiff, Nat.reduceAdd, Nat.reduceLeDiff, retOf, resOf]; first | done | rfl⟩

def partsP (l : List Lab) : List PV := l.map fun m => .sc (.string (markS m))
def bodyS (l : List Lab) : ByteArray := ⟨(Lib.join (l.map fun m => (markS m).data.toList) [44]).toArray⟩
def textS (l : List Lab) : ByteArray := (⟨#[123]⟩ ++ bodyS l) ++ ⟨#[125]⟩

theorem parts_fz (σ : St) (l : List Lab) : (partsP l).mapM (fz σ 11) = some (partsP l) := by
  induction l with
  | nil => rfl
  | cons m r ih =>
    show List.mapM (fz σ 11) (.sc (.string (markS m)) :: partsP r) = _
    rw [mapM_cons', ih]
    rfl

theorem parts_str (l : List Lab) : (partsP l).mapM strOf = some (l.map markS) := by
  induction l with
  | nil => rfl
  | cons m r ih =>
    show List.mapM strOf (.sc (.string (markS m)) :: partsP r) = _
    rw [mapM_cons', ih]
    rfl

theorem mark_size {m : Lab} (h1 : m.1.size ≤ 64) (h2 : m.2.size ≤ 64) : (markS m).data.toList.length ≤ 200 := by
  have l2 := esc_len m.2.data.toList
  have l0 : m.2.data.toList.length = m.2.size := by simp
  have s2 : (escS m.2).size = (esc m.2.data.toList).length := by simp [escS, ByteArray.size]
  have : (markS m).data.toList.length = (markS m).size := by simp
  rw [this]
  unfold markS
  rw [ByteArray.size_append, ByteArray.size_append, ByteArray.size_append]
  have : (⟨#[61, 34]⟩ : ByteArray).size = 2 := rfl
  have : (⟨#[34]⟩ : ByteArray).size = 1 := rfl
  omega

theorem join_len (sep : List UInt8) : ∀ (xs : List (List UInt8)), (∀ x ∈ xs, x.length ≤ 200) → sep.length ≤ 1 → (Lib.join xs sep).length ≤ 201 * xs.length
  | [], _, _ => by simp [Lib.join]
  | x :: r, h, hs => by
    rw [Lib.join_cons]
    have hx := h x (by simp)
    have : ∀ r : List (List UInt8), (∀ x ∈ r, x.length ≤ 200) → (Lib.joinTail sep r).length ≤ 201 * r.length := by
      intro r
      induction r with
      | nil => intro _; simp [Lib.joinTail]
      | cons y r ih =>
        intro h
        have hy := h y (by simp)
        have := ih fun x hx => h x (by simp [hx])
        unfold Lib.joinTail at this ⊢
        simp only [List.map_cons, List.flatten_cons, List.length_append, List.length_cons]
        omega
    have := this r fun x hx => h x (by simp [hx])
    simp only [List.length_append, List.length_cons]
    omega

theorem a23 (U : Has lu env) {l : List Lab} (h1 : ∀ m ∈ l, m.1.size ≤ 64 ∧ m.2.size ≤ 64) (h8 : l.length ≤ 8) : AV env 23 [.sl (partsP l), .sc (.string ⟨#[44]⟩)] = some (.sc (.string (bodyS l))) := by
  have hp := U (23, .prim joinF) (by simp [lu])
  refine AV_of (σ := St.nil) (r := .sc (.string (bodyS l))) (EV_of (n := 1) ?_) rfl
  simp only [evF, hp, joinF, parts_str, Option.bind_some]
  have hm : (l.map markS).map (·.data.toList) = l.map fun m => (markS m).data.toList := by simp
  have hj := join_len [44] (l.map fun m => (markS m).data.toList) (fun x hx => by
    obtain ⟨m, hm, rfl⟩ := List.mem_map.1 hx
    exact mark_size (h1 m hm).1 (h1 m hm).2) (by simp)
  rw [List.length_map] at hj
  rw [hm, if_pos ⟨by rw [List.length_map]; omega, by
    show (Lib.join _ [44]).length ≤ _
    omega⟩]
  rfl

theorem may_size {m : Lab} (h : mayB m = true) : m.1.size ≤ 64 ∧ m.2.size ≤ 64 := by
  unfold mayB nameB valueB at h
  simp only [Bool.and_eq_true, decide_eq_true_eq] at h
  omega

theorem a202 (H : Has la0 env) (G : Has lc env) (P : Has lp env) (U : Has lu env) {l : List Lab} (hn : l.length ≤ 9223372036854775807) (hl : Smalls l) :
    AV env 202 [.sl (labs l)] = some (.tu [.sc (.string (if rightL l = true then textS l else ⟨#[]⟩)), .sc (.int .i64 (if rightL l = true then 0 else 1))]) := by
  have hll := labs_len l
  have h113 := a113 H G hn hl
  refine AV_wp (U (202, d202) (by simp [lu])) rfl ?_
  (repeat' first
    | refine w_seq ?_
    | refine w_rg ?_
    | refine wo_nil ?_
    | refine s_plain (by simp only [go_sem, Nat.reduceEqDiff, Nat.reduceAdd, Nat.reduceLeDiff, h113]; first | done | rfl) ?_
    | refine s_void (by simp only [go_sem, Nat.reduceEqDiff, Nat.reduceAdd, Nat.reduceLeDiff, h113]; first | done | rfl) ?_
    | refine s_guard (by simp only [go_sem, Nat.reduceEqDiff, Nat.reduceAdd, Nat.reduceLeDiff, h113]; first | done | rfl) ?_
    | refine g_skU ?_
    | refine g_T (by intro hb; simp only [go_sem, Nat.reduceEqDiff, Nat.reduceAdd, Nat.reduceLeDiff, h113, hb]; first | done | rfl) ?_
    | refine g_F (by intro hb; simp only [go_sem, Nat.reduceEqDiff, Nat.reduceAdd, Nat.reduceLeDiff, h113, hb]; first | done | rfl) ?_
    | refine g_gT (by intro hb hc; simp only [go_sem, Nat.reduceEqDiff, Nat.reduceAdd, Nat.reduceLeDiff, h113, hb, hc]; first | done | rfl) ?_
    | refine g_gF (by intro hb hc; simp only [go_sem, Nat.reduceEqDiff, Nat.reduceAdd, Nat.reduceLeDiff, h113, hb, hc]; first | done | rfl) ?_
    | refine g_skT ?_
    | refine g_skF ?_
    | refine g_goT (by simp only [go_sem, Nat.reduceEqDiff, Nat.reduceAdd, Nat.reduceLeDiff, h113]; first | done | rfl) ?_
    | refine g_goF (by simp only [go_sem, Nat.reduceEqDiff, Nat.reduceAdd, Nat.reduceLeDiff, h113]; first | done | rfl) ?_
    )
  cases hr : rightL l with
  | false =>
    (repeat' first
    | refine w_seq ?_
    | refine w_rg ?_
    | refine wo_nil ?_
    | refine s_plain (by simp only [go_sem, Nat.reduceEqDiff, Nat.reduceAdd, Nat.reduceLeDiff]; first | done | rfl) ?_
    | refine s_void (by simp only [go_sem, Nat.reduceEqDiff, Nat.reduceAdd, Nat.reduceLeDiff]; first | done | rfl) ?_
    | refine s_guard (by simp only [go_sem, Nat.reduceEqDiff, Nat.reduceAdd, Nat.reduceLeDiff]; first | done | rfl) ?_
    | refine g_skU ?_
    | refine g_T (by intro hb; simp only [go_sem, Nat.reduceEqDiff, Nat.reduceAdd, Nat.reduceLeDiff, hb]; first | done | rfl) ?_
    | refine g_F (by intro hb; simp only [go_sem, Nat.reduceEqDiff, Nat.reduceAdd, Nat.reduceLeDiff, hb]; first | done | rfl) ?_
    | refine g_gT (by intro hb hc; simp only [go_sem, Nat.reduceEqDiff, Nat.reduceAdd, Nat.reduceLeDiff, hb, hc]; first | done | rfl) ?_
    | refine g_gF (by intro hb hc; simp only [go_sem, Nat.reduceEqDiff, Nat.reduceAdd, Nat.reduceLeDiff, hb, hc]; first | done | rfl) ?_
    | refine g_skT ?_
    | refine g_skF ?_
    | refine g_goT (by simp only [go_sem, Nat.reduceEqDiff, Nat.reduceAdd, Nat.reduceLeDiff]; first | done | rfl) ?_
    | refine g_goF (by simp only [go_sem, Nat.reduceEqDiff, Nat.reduceAdd, Nat.reduceLeDiff]; first | done | rfl) ?_
    | refine w_condT (by simp only [go_sem, Nat.reduceEqDiff, Nat.reduceAdd, Nat.reduceLeDiff]; first | done | rfl) ?_
    | refine w_condF (by simp only [go_sem, Nat.reduceEqDiff, Nat.reduceAdd, Nat.reduceLeDiff]; first | done | rfl) ?_
    | refine w_skip ?_
    | refine w_exit ?_
    | refine w_ret ?_
    )
    exact ⟨.inr rfl, by simp only [go_sem, Nat.reduceEqDiff, Nat.reduceAdd, Nat.reduceLeDiff, retOf, resOf]; first | done | rfl⟩
  | true =>
    obtain ⟨hmay, _, h8⟩ := right_iff.1 hr
    have hsz : ∀ m ∈ l, m.1.size ≤ 64 ∧ m.2.size ≤ 64 := fun m hm => may_size (hmay m hm)
    obtain ⟨r, σ1, h134, hg⟩ := a134 (σ := St.nil) P (l := l) (by omega)
    (repeat' first
    | refine w_seq ?_
    | refine w_rg ?_
    | refine wo_nil ?_
    | refine s_plain (by simp only [go_sem, Nat.reduceEqDiff, Nat.reduceAdd, Nat.reduceLeDiff]; first | done | rfl) ?_
    | refine s_void (by simp only [go_sem, Nat.reduceEqDiff, Nat.reduceAdd, Nat.reduceLeDiff]; first | done | rfl) ?_
    | refine s_guard (by simp only [go_sem, Nat.reduceEqDiff, Nat.reduceAdd, Nat.reduceLeDiff]; first | done | rfl) ?_
    | refine g_skU ?_
    | refine g_T (by intro hb; simp only [go_sem, Nat.reduceEqDiff, Nat.reduceAdd, Nat.reduceLeDiff, hb]; first | done | rfl) ?_
    | refine g_F (by intro hb; simp only [go_sem, Nat.reduceEqDiff, Nat.reduceAdd, Nat.reduceLeDiff, hb]; first | done | rfl) ?_
    | refine g_gT (by intro hb hc; simp only [go_sem, Nat.reduceEqDiff, Nat.reduceAdd, Nat.reduceLeDiff, hb, hc]; first | done | rfl) ?_
    | refine g_gF (by intro hb hc; simp only [go_sem, Nat.reduceEqDiff, Nat.reduceAdd, Nat.reduceLeDiff, hb, hc]; first | done | rfl) ?_
    | refine g_skT ?_
    | refine g_skF ?_
    | refine g_goT (by simp only [go_sem, Nat.reduceEqDiff, Nat.reduceAdd, Nat.reduceLeDiff]; first | done | rfl) ?_
    | refine g_goF (by simp only [go_sem, Nat.reduceEqDiff, Nat.reduceAdd, Nat.reduceLeDiff]; first | done | rfl) ?_
    | refine w_condT (by simp only [go_sem, Nat.reduceEqDiff, Nat.reduceAdd, Nat.reduceLeDiff]; first | done | rfl) ?_
    | refine w_condF (by simp only [go_sem, Nat.reduceEqDiff, Nat.reduceAdd, Nat.reduceLeDiff]; first | done | rfl) ?_
    | refine w_skip ?_
    | refine w_exit ?_
    | refine w_ret ?_
    )
    (repeat' first
    | refine w_seq ?_
    | refine w_rg ?_
    | refine wo_nil ?_
    | refine s_plain (by simp only [go_sem, Nat.reduceEqDiff, Nat.reduceAdd, Nat.reduceLeDiff, h134]; first | done | rfl) ?_
    | refine s_void (by simp only [go_sem, Nat.reduceEqDiff, Nat.reduceAdd, Nat.reduceLeDiff, h134]; first | done | rfl) ?_
    | refine s_guard (by simp only [go_sem, Nat.reduceEqDiff, Nat.reduceAdd, Nat.reduceLeDiff, h134]; first | done | rfl) ?_
    | refine g_skU ?_
    | refine g_T (by intro hb; simp only [go_sem, Nat.reduceEqDiff, Nat.reduceAdd, Nat.reduceLeDiff, h134, hb]; first | done | rfl) ?_
    | refine g_F (by intro hb; simp only [go_sem, Nat.reduceEqDiff, Nat.reduceAdd, Nat.reduceLeDiff, h134, hb]; first | done | rfl) ?_
    | refine g_gT (by intro hb hc; simp only [go_sem, Nat.reduceEqDiff, Nat.reduceAdd, Nat.reduceLeDiff, h134, hb, hc]; first | done | rfl) ?_
    | refine g_gF (by intro hb hc; simp only [go_sem, Nat.reduceEqDiff, Nat.reduceAdd, Nat.reduceLeDiff, h134, hb, hc]; first | done | rfl) ?_
    | refine g_skT ?_
    | refine g_skF ?_
    | refine g_goT (by simp only [go_sem, Nat.reduceEqDiff, Nat.reduceAdd, Nat.reduceLeDiff, h134]; first | done | rfl) ?_
    | refine g_goF (by simp only [go_sem, Nat.reduceEqDiff, Nat.reduceAdd, Nat.reduceLeDiff, h134]; first | done | rfl) ?_
    )
    refine s_plain (gat_len hg (by simp only [go_sem, Nat.reduceEqDiff, Nat.reduceAdd, Nat.reduceLeDiff])) ?_
    (repeat' first
    | refine w_seq ?_
    | refine w_rg ?_
    | refine wo_nil ?_
    | refine s_plain (by simp only [go_sem, Nat.reduceEqDiff, Nat.reduceAdd, Nat.reduceLeDiff, hll]; first | done | rfl) ?_
    | refine s_void (by simp only [go_sem, Nat.reduceEqDiff, Nat.reduceAdd, Nat.reduceLeDiff, hll]; first | done | rfl) ?_
    | refine s_guard (by simp only [go_sem, Nat.reduceEqDiff, Nat.reduceAdd, Nat.reduceLeDiff, hll]; first | done | rfl) ?_
    | refine g_skU ?_
    | refine g_T (by intro hb; simp only [go_sem, Nat.reduceEqDiff, Nat.reduceAdd, Nat.reduceLeDiff, hll, hb]; first | done | rfl) ?_
    | refine g_F (by intro hb; simp only [go_sem, Nat.reduceEqDiff, Nat.reduceAdd, Nat.reduceLeDiff, hll, hb]; first | done | rfl) ?_
    | refine g_gT (by intro hb hc; simp only [go_sem, Nat.reduceEqDiff, Nat.reduceAdd, Nat.reduceLeDiff, hll, hb, hc]; first | done | rfl) ?_
    | refine g_gF (by intro hb hc; simp only [go_sem, Nat.reduceEqDiff, Nat.reduceAdd, Nat.reduceLeDiff, hll, hb, hc]; first | done | rfl) ?_
    | refine g_skT ?_
    | refine g_skF ?_
    | refine g_goT (by simp only [go_sem, Nat.reduceEqDiff, Nat.reduceAdd, Nat.reduceLeDiff, hll]; first | done | rfl) ?_
    | refine g_goF (by simp only [go_sem, Nat.reduceEqDiff, Nat.reduceAdd, Nat.reduceLeDiff, hll]; first | done | rfl) ?_
    )
    refine w_block (w_range l.length hn (fun i fr σ => Gat σ [15] 2 true (fr 11) (labs l) ∧ Gat σ [21] 1 false (fr 4) (partsP (l.take i))) (by decide) ?_ ?_ ?_ _ _ ?_ ?_ ?_)
    · rintro i fr σ v ⟨h0, h1⟩
      refine ⟨⟨?_, ?_⟩, ⟨?_, ?_⟩, ⟨?_, ?_⟩⟩ <;> simp only [go_sem, Nat.reduceEqDiff, Nat.reduceAdd, Nat.reduceLeDiff, h0, h1]
    · rintro i fr σ hi ⟨g11, hg⟩ hti htn
      rcases g11 with ⟨_, hnil⟩ | ⟨o, g, wr, ho, q11, qm, qc, qne, qw⟩
      · exfalso
        have := congrArg List.length hnil
        rw [hll] at this
        simp only [List.length_nil] at this
        omega
      · have ho' : o = 15 := by simpa using ho
        subst ho'
        have g11 : Gat σ [15] 2 true (fr 11) (labs l) := .inr ⟨15, g, wr, ho, q11, qm, qc, qne, qw⟩
        rw [hll] at q11
        have hy := labs_at (List.getElem?_eq_getElem hi)
        have e1 : (0 : Int) ≤ (i : Int) ∧ (i : Int) < (l.length : Int) := by omega
        have h176 := a176 U (m := l[i]) (hsz _ (List.getElem_mem hi)).1 (hsz _ (List.getElem_mem hi)).2
        refine w_block ?_
        simp only [lab] at hy h176
        (repeat' first
    | refine w_seq ?_
    | refine w_rg ?_
    | refine wo_nil ?_
    | refine s_plain (by simp only [go_sem, Nat.reduceEqDiff, Nat.reduceAdd, Nat.reduceLeDiff, q11, qm, hti, e1, Int.toNat_natCast, hy, h176, List.modify_zero_cons, fillE, List.replicate_succ, List.replicate_zero, List.set_cons_zero, List.drop_zero]; first | done | rfl) ?_
    | refine s_void (by simp only [go_sem, Nat.reduceEqDiff, Nat.reduceAdd, Nat.reduceLeDiff, q11, qm, hti, e1, Int.toNat_natCast, hy, h176, List.modify_zero_cons, fillE, List.replicate_succ, List.replicate_zero, List.set_cons_zero, List.drop_zero]; first | done | rfl) ?_
    | refine s_guard (by simp only [go_sem, Nat.reduceEqDiff, Nat.reduceAdd, Nat.reduceLeDiff, q11, qm, hti, e1, Int.toNat_natCast, hy, h176, List.modify_zero_cons, fillE, List.replicate_succ, List.replicate_zero, List.set_cons_zero, List.drop_zero]; first | done | rfl) ?_
    | refine g_skU ?_
    | refine g_T (by intro hb; simp only [go_sem, Nat.reduceEqDiff, Nat.reduceAdd, Nat.reduceLeDiff, q11, qm, hti, e1, Int.toNat_natCast, hy, h176, List.modify_zero_cons, fillE, List.replicate_succ, List.replicate_zero, List.set_cons_zero, List.drop_zero, hb]; first | done | rfl) ?_
    | refine g_F (by intro hb; simp only [go_sem, Nat.reduceEqDiff, Nat.reduceAdd, Nat.reduceLeDiff, q11, qm, hti, e1, Int.toNat_natCast, hy, h176, List.modify_zero_cons, fillE, List.replicate_succ, List.replicate_zero, List.set_cons_zero, List.drop_zero, hb]; first | done | rfl) ?_
    | refine g_gT (by intro hb hc; simp only [go_sem, Nat.reduceEqDiff, Nat.reduceAdd, Nat.reduceLeDiff, q11, qm, hti, e1, Int.toNat_natCast, hy, h176, List.modify_zero_cons, fillE, List.replicate_succ, List.replicate_zero, List.set_cons_zero, List.drop_zero, hb, hc]; first | done | rfl) ?_
    | refine g_gF (by intro hb hc; simp only [go_sem, Nat.reduceEqDiff, Nat.reduceAdd, Nat.reduceLeDiff, q11, qm, hti, e1, Int.toNat_natCast, hy, h176, List.modify_zero_cons, fillE, List.replicate_succ, List.replicate_zero, List.set_cons_zero, List.drop_zero, hb, hc]; first | done | rfl) ?_
    | refine g_skT ?_
    | refine g_skF ?_
    | refine g_goT (by simp only [go_sem, Nat.reduceEqDiff, Nat.reduceAdd, Nat.reduceLeDiff, q11, qm, hti, e1, Int.toNat_natCast, hy, h176, List.modify_zero_cons, fillE, List.replicate_succ, List.replicate_zero, List.set_cons_zero, List.drop_zero]; first | done | rfl) ?_
    | refine g_goF (by simp only [go_sem, Nat.reduceEqDiff, Nat.reduceAdd, Nat.reduceLeDiff, q11, qm, hti, e1, Int.toNat_natCast, hy, h176, List.modify_zero_cons, fillE, List.replicate_succ, List.replicate_zero, List.set_cons_zero, List.drop_zero]; first | done | rfl) ?_
    )
        have hpt : partsP (l.take (i + 1)) = partsP (l.take i) ++ [.sc (.string (markS l[i]))] := by
          rw [List.take_succ_eq_append_getElem hi]; simp only [partsP, List.map_append, List.map_cons, List.map_nil]
        have hlen : (partsP (l.take i)).length ≤ 8 := by simp [partsP, List.length_take]; omega
        refine s_gatL (os := [21]) (w := false) (ys := [.sc (.string (markS l[i]))]) (by simp only [go_sem, Nat.reduceEqDiff, Nat.reduceAdd, Nat.reduceLeDiff]; exact ((hg.new _).put (d := 6) (by decide) _).new _) (by simp only [go_sem, Nat.reduceEqDiff, Nat.reduceAdd, Nat.reduceLeDiff, srcOf, elemsOf]) rfl (by simp; omega) ?_
        intro p σ' hg2 kp
        rw [Bool.false_and, ← hpt] at hg2
        (repeat' first
    | refine w_seq ?_
    | refine w_rg ?_
    | refine wo_nil ?_
    | refine s_plain (by simp only [go_sem, Nat.reduceEqDiff, Nat.reduceAdd, Nat.reduceLeDiff]; first | done | rfl) ?_
    | refine s_void (by simp only [go_sem, Nat.reduceEqDiff, Nat.reduceAdd, Nat.reduceLeDiff]; first | done | rfl) ?_
    | refine s_guard (by simp only [go_sem, Nat.reduceEqDiff, Nat.reduceAdd, Nat.reduceLeDiff]; first | done | rfl) ?_
    | refine g_skU ?_
    | refine g_T (by intro hb; simp only [go_sem, Nat.reduceEqDiff, Nat.reduceAdd, Nat.reduceLeDiff, hb]; first | done | rfl) ?_
    | refine g_F (by intro hb; simp only [go_sem, Nat.reduceEqDiff, Nat.reduceAdd, Nat.reduceLeDiff, hb]; first | done | rfl) ?_
    | refine g_gT (by intro hb hc; simp only [go_sem, Nat.reduceEqDiff, Nat.reduceAdd, Nat.reduceLeDiff, hb, hc]; first | done | rfl) ?_
    | refine g_gF (by intro hb hc; simp only [go_sem, Nat.reduceEqDiff, Nat.reduceAdd, Nat.reduceLeDiff, hb, hc]; first | done | rfl) ?_
    | refine g_skT ?_
    | refine g_skF ?_
    | refine g_goT (by simp only [go_sem, Nat.reduceEqDiff, Nat.reduceAdd, Nat.reduceLeDiff]; first | done | rfl) ?_
    | refine g_goF (by simp only [go_sem, Nat.reduceEqDiff, Nat.reduceAdd, Nat.reduceLeDiff]; first | done | rfl) ?_
    )
        refine ⟨⟨?_, ?_⟩, ?_, ?_⟩
        · simp only [go_sem, Nat.reduceEqDiff, Nat.reduceAdd, Nat.reduceLeDiff]; exact ((((g11.new _).put (d := 6) (by decide) _).new _).keep kp (by simp))
        · simp only [go_sem, Nat.reduceEqDiff, Nat.reduceAdd, Nat.reduceLeDiff]; exact hg2
        · simp only [go_sem, Nat.reduceEqDiff, Nat.reduceAdd, Nat.reduceLeDiff, hti]
        · simp only [go_sem, Nat.reduceEqDiff, Nat.reduceAdd, Nat.reduceLeDiff, htn]
    · rintro fr σ ⟨_, hg⟩
      try simp only [if_true]
      rw [List.take_of_length_le (Nat.le_refl _)] at hg
      have hfz := hg.fz (parts_fz σ _)
      have h23 := a23 U hsz h8
      have bl : (bodyS l).size ≤ 1608 := by
        have hj := join_len [44] (l.map fun m => (markS m).data.toList) (fun x hx => by
          obtain ⟨m, hm, rfl⟩ := List.mem_map.1 hx
          exact mark_size (hsz m hm).1 (hsz m hm).2) (by simp)
        rw [List.length_map] at hj
        simp only [bodyS, ByteArray.size, List.size_toArray]
        omega
      have q1 : (⟨#[123]⟩ : ByteArray).size + (bodyS l).size ≤ 9223372036854775807 := by
        have : (⟨#[123]⟩ : ByteArray).size = 1 := rfl
        omega
      have q2 : (⟨#[123]⟩ ++ bodyS l).size + (⟨#[125]⟩ : ByteArray).size ≤ 9223372036854775807 := by
        rw [ByteArray.size_append]
        have : (⟨#[123]⟩ : ByteArray).size = 1 := rfl
        have : (⟨#[125]⟩ : ByteArray).size = 1 := rfl
        omega
      (repeat' first
    | refine w_seq ?_
    | refine w_rg ?_
    | refine wo_nil ?_
    | refine s_plain (by simp only [go_sem, Nat.reduceEqDiff, Nat.reduceAdd, Nat.reduceLeDiff]; first | done | rfl) ?_
    | refine s_void (by simp only [go_sem, Nat.reduceEqDiff, Nat.reduceAdd, Nat.reduceLeDiff]; first | done | rfl) ?_
    | refine s_guard (by simp only [go_sem, Nat.reduceEqDiff, Nat.reduceAdd, Nat.reduceLeDiff]; first | done | rfl) ?_
    | refine g_skU ?_
    | refine g_T (by intro hb; simp only [go_sem, Nat.reduceEqDiff, Nat.reduceAdd, Nat.reduceLeDiff, hb]; first | done | rfl) ?_
    | refine g_F (by intro hb; simp only [go_sem, Nat.reduceEqDiff, Nat.reduceAdd, Nat.reduceLeDiff, hb]; first | done | rfl) ?_
    | refine g_gT (by intro hb hc; simp only [go_sem, Nat.reduceEqDiff, Nat.reduceAdd, Nat.reduceLeDiff, hb, hc]; first | done | rfl) ?_
    | refine g_gF (by intro hb hc; simp only [go_sem, Nat.reduceEqDiff, Nat.reduceAdd, Nat.reduceLeDiff, hb, hc]; first | done | rfl) ?_
    | refine g_skT ?_
    | refine g_skF ?_
    | refine g_goT (by simp only [go_sem, Nat.reduceEqDiff, Nat.reduceAdd, Nat.reduceLeDiff]; first | done | rfl) ?_
    | refine g_goF (by simp only [go_sem, Nat.reduceEqDiff, Nat.reduceAdd, Nat.reduceLeDiff]; first | done | rfl) ?_
    )
      refine s_call (as := [.sl (partsP l), .sc (.string ⟨#[44]⟩)]) (by simp only [go_sem, Nat.reduceEqDiff, Nat.reduceAdd, Nat.reduceLeDiff, hfz]) h23 ?_
      intro σ'
      (repeat' first
    | refine w_seq ?_
    | refine w_rg ?_
    | refine wo_nil ?_
    | refine s_plain (by simp only [go_sem, Nat.reduceEqDiff, Nat.reduceAdd, Nat.reduceLeDiff, q1, q2]; first | done | rfl) ?_
    | refine s_void (by simp only [go_sem, Nat.reduceEqDiff, Nat.reduceAdd, Nat.reduceLeDiff, q1, q2]; first | done | rfl) ?_
    | refine s_guard (by simp only [go_sem, Nat.reduceEqDiff, Nat.reduceAdd, Nat.reduceLeDiff, q1, q2]; first | done | rfl) ?_
    | refine g_skU ?_
    | refine g_T (by intro hb; simp only [go_sem, Nat.reduceEqDiff, Nat.reduceAdd, Nat.reduceLeDiff, q1, q2, hb]; first | done | rfl) ?_
    | refine g_F (by intro hb; simp only [go_sem, Nat.reduceEqDiff, Nat.reduceAdd, Nat.reduceLeDiff, q1, q2, hb]; first | done | rfl) ?_
    | refine g_gT (by intro hb hc; simp only [go_sem, Nat.reduceEqDiff, Nat.reduceAdd, Nat.reduceLeDiff, q1, q2, hb, hc]; first | done | rfl) ?_
    | refine g_gF (by intro hb hc; simp only [go_sem, Nat.reduceEqDiff, Nat.reduceAdd, Nat.reduceLeDiff, q1, q2, hb, hc]; first | done | rfl) ?_
    | refine g_skT ?_
    | refine g_skF ?_
    | refine g_goT (by simp only [go_sem, Nat.reduceEqDiff, Nat.reduceAdd, Nat.reduceLeDiff, q1, q2]; first | done | rfl) ?_
    | refine g_goF (by simp only [go_sem, Nat.reduceEqDiff, Nat.reduceAdd, Nat.reduceLeDiff, q1, q2]; first | done | rfl) ?_
    | refine w_condT (by simp only [go_sem, Nat.reduceEqDiff, Nat.reduceAdd, Nat.reduceLeDiff, q1, q2]; first | done | rfl) ?_
    | refine w_condF (by simp only [go_sem, Nat.reduceEqDiff, Nat.reduceAdd, Nat.reduceLeDiff, q1, q2]; first | done | rfl) ?_
    | refine w_skip ?_
    | refine w_exit ?_
    | refine w_ret ?_
    )
      exact ⟨.inr rfl, by simp only [go_sem, Nat.reduceEqDiff, Nat.reduceAdd, Nat.reduceLeDiff, retOf, resOf, hr]; first | done | rfl⟩
    · exact ⟨by simp only [go_sem, Nat.reduceEqDiff, Nat.reduceAdd, Nat.reduceLeDiff]; exact hg, by simp only [go_sem, Nat.reduceEqDiff, Nat.reduceAdd, Nat.reduceLeDiff]; exact .em⟩
    · simp only [go_sem, Nat.reduceEqDiff, Nat.reduceAdd, Nat.reduceLeDiff]
    · simp only [go_sem, Nat.reduceEqDiff, Nat.reduceAdd, Nat.reduceLeDiff, hll]

end
end Go.Proofs.YtjijlmfhnkipmaaDoorPv
