/-
Library functions that are told by hand: what they answer.
-/
import Derived.Test.YtcpgkdaicglogaaGreatDoorPvZ
import Derived.Lib.Strings
import Derived.Lib.IndexLaws
import Derived.Lib.SlTrimSet
import Derived.Lib.ItoaNum
namespace Go.Proofs.YtcpgkdaicglogaaGreatDoorPv
open Go
set_option linter.unusedSimpArgs false
set_option linter.unusedVariables false
set_option maxHeartbeats 4000000
attribute [local go_sem ↓] e_mv e_pick e_bin e_eqs e_beq e_un e_cvi e_str e_s2b e_b2s e_box e_build e_bsl e_ld e_st e_nck e_mkf e_slcS e_slcL e_fa e_fld e_ia e_iaa e_ix e_ixa e_ext e_lenS e_lenL e_mnmx e_app e_appb e_bbx e_msl e_clr e_call e_callv e_icall e_slcA e_mkm e_mput e_mget e_mlen e_mdel pa_t pa_c pa_f slcSP_str hiOf_some hiOf_none loOf_some loOf_none set_eq set_ne
attribute [local go_sem] pv pv1 simple frOf_0 frOf_1 frOf_2 frOf_3 frOf_4 frOf_5 ne_eq not_false_eq_true if_true Bool.false_eq_true if_false pbin punary Option.map_some Option.bind_some pick_and pick_or opt_true Bool.true_and Bool.and_self Bool.and_true Bool.true_or Bool.false_or Bool.not_true Bool.not_false callE pcall_eq List.map_cons List.map_nil List.append_nil List.nil_append List.cons_append mapM_cons' mapM_nil' dep_eq fz_sc fz_sl fz_em fz_fn fz_fp fz_agg fz_tu fz_bx fz_ob Nat.lt_irrefl Nat.zero_lt_one Nat.lt_add_one flat clL cl Bool.or_true okc_sc okc_em okc_sl okc_ob okc_bx okc_fp okc_fn okc_agg okc_ifc cells_agg cells_sc cells_sl cells_em cells_ob cells_fn cells_bx cells_fp List.length_cons List.length_nil Nat.zero_add and_self true_and and_true new_m new_c put_m put_c nil_m nil_c nil_mm new_mm put_mm newM_m newM_c newM_mm putM_m putM_c putM_mm mkeyV_1 mkeyV_2 mapAt_eq deref List.getElem?_cons_zero List.getElem?_cons_succ List.drop_zero List.drop_succ_cons List.take_succ_cons List.take_zero Nat.le_refl false_and and_false decide_true decide_false lenP_em lenP_nil lenP_sl lenP_ob Int.ofNat_zero
set_option maxRecDepth 8000

def scOf : PV → Option Value
  | .sc v => some v
  | _ => none

/-- A function of plain values, that answers one. -/
def pureF (f : List Value → Option PV) : List PV → St → Option (PV × St) := fun args σ => (args.mapM scOf).bind fun vs => (f vs).map fun r => (r, σ)

/-- internal/stringslite.Index (strings.Index). -/
def idxF : List Value → Option PV
  | [.string s, .string sub] => if s.size < 4294967281 then some (.sc (.int .i64 (Lib.index s.data.toList sub.data.toList))) else none
  | _ => none

/-- (*strings.Builder).copyCheck. -/
def ccF : List PV → St → Option (PV × St)
  | [.bx o g es i j], σ => if o = bldAt ∧ es = 2 ∧ i = 0 ∧ j = 0 then
      match σ.m bldAt g with
      | some ⟨2, [.agg [.sc (.pointer none), c]], true, true⟩ => some (.tu [], σ.put bldAt g (some ⟨2, [.agg [.bx bldAt g 2 0 0, c]], true, true⟩))
      | some ⟨2, [.agg [.bx o' g' es' i' j', c]], true, true⟩ => if o' = bldAt ∧ g' = g ∧ es' = 2 ∧ i' = 0 ∧ j' = 0 then some (.tu [], σ) else none
      | _ => none
    else none
  | _, _ => none

/-- The bytes that a row is. -/
def bytes? (l : List PV) : Option (List UInt8) := l.mapM fun
  | .sc (.int .u8 n) => if 0 ≤ n ∧ n < 256 then some (UInt8.ofNat n.toNat) else none
  | _ => none

theorem bytes?_at : ∀ {l : List PV} {bs : List UInt8}, bytes? l = some bs → l = bs.map fun b => .sc (.int .u8 b.toNat)
  | [], bs, h => by simp [bytes?, mapM_nil'] at h; subst h; rfl
  | p :: r, bs, h => by
    unfold bytes? at h
    rw [mapM_cons'] at h
    obtain ⟨v, h1, h⟩ := Option.bind_eq_some_iff.1 h
    obtain ⟨l, h2, h⟩ := Option.bind_eq_some_iff.1 h
    simp only [Option.some.injEq] at h
    subst h
    have e := bytes?_at (l := r) h2
    split at h1
    · rename_i n
      split at h1
      · rename_i hn
        simp only [Option.some.injEq] at h1
        subst h1
        rw [e]
        simp only [List.map_cons, List.cons.injEq, PV.sc.injEq, Value.int.injEq, true_and, and_true]
        rw [UInt8.toNat_ofNat']
        omega
      · cases h1
    · cases h1

theorem bytes?_map (bs : List UInt8) : bytes? (bs.map fun b => .sc (.int .u8 b.toNat)) = some bs := by
  induction bs with
  | nil => rfl
  | cons b r ih =>
    unfold bytes? at ih ⊢
    rw [List.map_cons, mapM_cons', ih]
    have hb := b.toNat_lt
    simp only [Option.bind_some]
    rw [if_pos (by omega)]
    simp

/-- (*strings.Builder).String: behind it the buffer is written no more. -/
def strF : List PV → St → Option (PV × St)
  | [.bx o g es i j], σ => if o = bldAt ∧ es = 2 ∧ i = 0 ∧ j = 0 then
      match σ.m bldAt g with
      | some ⟨2, [.agg [_, .sc (.slice none 0 0)]], _, _⟩ => some (.sc (.string ⟨#[]⟩), σ)
      | some ⟨2, [.agg [_, .ob o' g' es' i' n]], _, _⟩ => if o' = bufAt ∧ es' = 1 ∧ i' = 0 then
          match σ.m bufAt g' with
          | some ⟨1, xs, true, wr⟩ => if n = xs.length ∧ 0 < n ∧ n ≤ 70368744177664 then (bytes? xs).map fun bs => (.sc (.string ⟨bs.toArray⟩), σ.put bufAt g' (some ⟨1, xs, false, false⟩)) else none
          | _ => none
        else none
      | _ => none
    else none
  | _, _ => none


/-- A function of two texts, that answers one. -/
def str2V (c : ByteArray → ByteArray → Bool) (g : List UInt8 → List UInt8 → List UInt8) : List Value → Option PV
  | [.string s, .string t] => if c s t = true then some (.sc (.string ⟨(g s.data.toList t.data.toList).toArray⟩)) else none
  | _ => none

def trimC (s t : ByteArray) : Bool := decide (s.size ≤ 9223372036854775807) && decide (t.size < 4294967281) && t.data.toList.all fun b => decide (b.toNat < 128)

/-- strings.Trim, strings.TrimLeft. -/
def trimV : List Value → Option PV := str2V trimC Lib.trimS
def trimLV : List Value → Option PV := str2V trimC Lib.trimLeftS

/-- strings.Count, of one byte. -/
def cntF : List Value → Option PV
  | [.string s, .string t] => match t.data.toList with
    | [c] => some (.sc (.int .i64 (Lib.countByte s.data.toList c)))
    | _ => none
  | _ => none

/-- strconv.Itoa. -/
def itoaF : List Value → Option PV
  | [.int .i64 n] => if -9223372036854775808 ≤ n ∧ n ≤ 9223372036854775807 then some (.sc (.string ⟨(Lib.itoa n).toArray⟩)) else none
  | _ => none

/-- strings.IndexByte. -/
def ixbF : List Value → Option PV
  | [.string s, .int .u8 n] => some (.sc (.int .i64 (Lib.indexByte s.data.toList n.toNat.toUInt8)))
  | _ => none

end Go.Proofs.YtcpgkdaicglogaaGreatDoorPv
