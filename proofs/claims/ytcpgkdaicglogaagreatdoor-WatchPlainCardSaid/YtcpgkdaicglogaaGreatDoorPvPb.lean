/-
Library functions that are told by hand: of texts and numbers alone; a strings.Builder's copyCheck and String.
-/
import Derived.Test.YtcpgkdaicglogaaGreatDoorPvP
import Derived.Test.YtcpgkdaicglogaaGreatDoorPvPc
import Derived.Test.YtcpgkdaicglogaaGreatDoorPvZ
import Derived.Shelf.Strings.Builder1
import Derived.Lib.LaidTab
namespace Go.Proofs.YtcpgkdaicglogaaGreatDoorPv
open Go Go.RowKit
set_option linter.unusedSimpArgs false
set_option linter.unusedVariables false
set_option maxHeartbeats 4000000
attribute [local go_sem ↓] e_mv e_pick e_bin e_eqs e_beq e_un e_cvi e_str e_s2b e_b2s e_box e_build e_bsl e_ld e_st e_nck e_mkf e_slcS e_slcL e_fa e_fld e_ia e_iaa e_ix e_ixa e_ext e_lenS e_lenL e_mnmx e_app e_appb e_bbx e_msl e_clr e_call e_callv e_icall e_slcA e_mkm e_mput e_mget e_mlen e_mdel pa_t pa_c pa_f slcSP_str hiOf_some hiOf_none loOf_some loOf_none set_eq set_ne
attribute [local go_sem] pv pv1 simple frOf_0 frOf_1 frOf_2 frOf_3 frOf_4 frOf_5 ne_eq not_false_eq_true if_true Bool.false_eq_true if_false pbin punary Option.map_some Option.bind_some pick_and pick_or opt_true Bool.true_and Bool.and_self Bool.and_true Bool.true_or Bool.false_or Bool.not_true Bool.not_false callE pcall_eq List.map_cons List.map_nil List.append_nil List.nil_append List.cons_append mapM_cons' mapM_nil' dep_eq fz_sc fz_sl fz_em fz_fn fz_fp fz_agg fz_tu fz_bx fz_ob Nat.lt_irrefl Nat.zero_lt_one Nat.lt_add_one flat clL cl Bool.or_true okc_sc okc_em okc_sl okc_ob okc_bx okc_fp okc_fn okc_agg okc_ifc cells_agg cells_sc cells_sl cells_em cells_ob cells_fn cells_bx cells_fp List.length_cons List.length_nil Nat.zero_add and_self true_and and_true new_m new_c put_m put_c nil_m nil_c nil_mm new_mm put_mm newM_m newM_c newM_mm putM_m putM_c putM_mm mkeyV_1 mkeyV_2 mapAt_eq deref List.getElem?_cons_zero List.getElem?_cons_succ List.drop_zero List.drop_succ_cons List.take_succ_cons List.take_zero Nat.le_refl false_and and_false decide_true decide_false lenP_em lenP_nil lenP_sl lenP_ob Int.ofNat_zero
set_option maxRecDepth 8000

theorem mapM_scOf : ∀ {args : List PV} {vs : List Value}, args.mapM scOf = some vs → args = vs.map .sc
  | [], vs, h => by simp [mapM_nil'] at h; subst h; rfl
  | p :: r, vs, h => by
    rw [mapM_cons'] at h
    obtain ⟨v, h1, h⟩ := Option.bind_eq_some_iff.1 h
    obtain ⟨l, h2, h⟩ := Option.bind_eq_some_iff.1 h
    simp only [Option.some.injEq] at h
    subst h
    have e := mapM_scOf h2
    unfold scOf at h1
    split at h1
    · simp only [Option.some.injEq] at h1; subst h1; rw [e]; rfl
    · cases h1

section
variable {km : Km} {P : Program} {A : Ann} {cx : Cx km} {K : Nat → Nat → Option Nat} {σ : St} {w : World}

theorem pure_prim {k : Nat} {f : List Value → Option PV} {G : World → Prop} (ho : Open P (km k)) (hG : ∀ (cx : Cx km) (K : Nat → Nat → Option Nat) (σ : St) (w : World), Inv km cx K σ w → G w)
    (h : ∀ vs r w, f vs = some r → G w → Calls P (km k) vs.toArray w fun e w' => (∃ v, e = .returned v ∧ ∀ L S K, Rep km L S K v r) ∧ Below w.heap.size w w') : PrimOk km P k (pureF f) := by
  intro args σ r σ' hF
  refine ⟨ho, fun cx K w vs hi hlen hr => ?_⟩
  unfold pureF at hF
  obtain ⟨us, hus, hF⟩ := Option.bind_eq_some_iff.1 hF
  obtain ⟨r1, h1, hF⟩ := Option.map_eq_some_iff.1 hF
  simp only [Prod.mk.injEq] at hF
  obtain ⟨rfl, rfl⟩ := hF
  have ha := mapM_scOf hus
  have hv : vs = us := by
    apply List.ext_getElem?
    intro i
    cases hi' : us[i]? with
    | none =>
      have := List.getElem?_eq_none_iff.1 hi'
      rw [List.getElem?_eq_none (by rw [hlen, ha]; simpa using this)]
    | some u =>
      have hu : args[i]? = some (.sc u) := by rw [ha, List.getElem?_map, hi']; rfl
      have hl : i < vs.length := by rw [hlen]; exact (List.getElem?_eq_some_iff.1 hu).1
      have hvi := List.getElem?_eq_getElem hl
      have := (hr i _ _ hvi hu).inv_sc.1
      rw [hvi, this]
  subst hv
  refine (h vs r1 w h1 (hG cx K σ w hi)).mono ?_
  rintro e w' ⟨⟨v, rfl, hrep⟩, hb⟩
  obtain ⟨g1, g2⟩ := inv_grow hi hb
  exact ⟨_, K, rfl, hrep _ _ _, g1, g2⟩

theorem idx_prim {k : Nat} {g : Nat} {m : Int} (ho : Open P (km k)) (hg : km.G ⟨g, 0, none⟩ (.int .i64 m))
    (h : ∀ (s sub : ByteArray) (w : World), s.size < 4294967281 → w.cell? ⟨g, 0, none⟩ = some (.int .i64 m) → Calls P (km k) #[.string s, .string sub] w fun e w' => e = .returned (.int .i64 (Lib.index s.data.toList sub.data.toList)) ∧ w' = w) : PrimOk km P k (pureF idxF) := by
  refine pure_prim (G := fun w => w.cell? ⟨g, 0, none⟩ = some (.int .i64 m)) ho (fun cx K σ w hi => hi.glob hg) fun vs r w hf hw => ?_
  unfold idxF at hf
  split at hf
  · rename_i s sub
    split at hf
    · rename_i hs
      simp only [Option.some.injEq] at hf
      subst hf
      refine (h s sub w hs hw).mono ?_
      rintro e w' ⟨rfl, rfl⟩
      exact ⟨⟨_, rfl, fun L S K => .sc _ rfl⟩, Below.refl _ _⟩
    · cases hf
  · cases hf

theorem str2_prim {k : Nat} {c : ByteArray → ByteArray → Bool} {g : List UInt8 → List UInt8 → List UInt8} (ho : Open P (km k))
    (h : ∀ (s t : ByteArray) (w : World), c s t = true → Calls P (km k) #[.string s, .string t] w fun e w' => e = .returned (.string ⟨(g s.data.toList t.data.toList).toArray⟩) ∧ Below w.heap.size w w') : PrimOk km P k (pureF (str2V c g)) := by
  refine pure_prim (G := fun _ => True) ho (fun _ _ _ _ _ => trivial) fun vs r w hf _ => ?_
  unfold str2V at hf
  split at hf
  · rename_i s t
    split at hf
    · rename_i hc
      simp only [Option.some.injEq] at hf
      subst hf
      refine (h s t w hc).mono ?_
      rintro e w' ⟨rfl, hb⟩
      exact ⟨⟨_, rfl, fun L S K => .sc _ rfl⟩, hb⟩
    · cases hf
  · cases hf

theorem cnt_prim {k : Nat} (ho : Open P (km k)) (h : ∀ (s : ByteArray) (c : UInt8) (w : World), Calls P (km k) #[.string s, .string ⟨#[c]⟩] w fun e w' => e = .returned (.int .i64 (Lib.countByte s.data.toList c)) ∧ w' = w) : PrimOk km P k (pureF cntF) := by
  refine pure_prim (G := fun _ => True) ho (fun _ _ _ _ _ => trivial) fun vs r w hf _ => ?_
  unfold cntF at hf
  split at hf
  · rename_i s t
    split at hf
    · rename_i c hc
      simp only [Option.some.injEq] at hf
      subst hf
      have ht : t = ⟨#[c]⟩ := by
        apply ByteArray.ext
        apply Array.ext'
        exact hc
      subst ht
      refine (h s c w).mono ?_
      rintro e w' ⟨rfl, rfl⟩
      exact ⟨⟨_, rfl, fun L S K => .sc _ rfl⟩, Below.refl _ _⟩
    · cases hf
  · cases hf

theorem ixb_prim {k : Nat} (ho : Open P (km k)) (h : ∀ (s : ByteArray) (c : Int) (w : World), Calls P (km k) #[.string s, .int .u8 c] w fun e w' => e = .returned (.int .i64 (Lib.indexByte s.data.toList c.toNat.toUInt8)) ∧ w' = w) : PrimOk km P k (pureF ixbF) := by
  refine pure_prim (G := fun _ => True) ho (fun _ _ _ _ _ => trivial) fun vs r w hf _ => ?_
  unfold ixbF at hf
  split at hf
  · rename_i s n
    simp only [Option.some.injEq] at hf
    subst hf
    refine (h s n w).mono ?_
    rintro e w' ⟨rfl, rfl⟩
    exact ⟨⟨_, rfl, fun L S K => .sc _ rfl⟩, Below.refl _ _⟩
  · cases hf

/-- A table of a variable's stays, when memory grows. -/
theorem tab_below {name : String} {k : IntKind} {zs : List Int} (w w' : World) (h : Lib.TabIs P w name k zs) (hb : Below w.heap.size w w') : Lib.TabIs P w' name k zs := by
  unfold Lib.TabIs World.var? at h ⊢
  obtain ⟨g, hg, h⟩ := Option.bind_eq_some_iff.1 h
  rw [hg]
  simp only [Option.bind_some]
  split at h
  · rename_i cs t fr hc
    rw [hb.block g (Array.getElem?_eq_some_iff.1 hc).1, hc]
    exact h
  · cases h

theorem itoa_prim {k : Nat} (ho : Open P (km k)) (G : World → Prop) (hG : ∀ w, km.T w → G w)
    (h : ∀ (n : Int) (w : World), -9223372036854775808 ≤ n → n ≤ 9223372036854775807 → G w → Calls P (km k) #[.int .i64 n] w fun e w' => e = .returned (.string ⟨(Lib.itoa n).toArray⟩) ∧ Below w.heap.size w w') : PrimOk km P k (pureF itoaF) := by
  refine pure_prim (G := G) ho (fun _ _ _ _ hi => hG _ hi.holds.2) fun vs r w hf hw => ?_
  unfold itoaF at hf
  split at hf
  · rename_i n
    split at hf
    · rename_i hn
      simp only [Option.some.injEq] at hf
      subst hf
      refine (h n w hn.1 hn.2 hw).mono ?_
      rintro e w' ⟨rfl, hb⟩
      exact ⟨⟨_, rfl, fun L S K => .sc _ rfl⟩, hb⟩
    · cases hf
  · cases hf

theorem trimC_spec {s t : ByteArray} (h : trimC s t = true) : s.size ≤ 9223372036854775807 ∧ t.size < 4294967281 ∧ ∀ (j : Nat) b, t.data.toList[j]? = some b → b.toNat < 128 := by
  unfold trimC at h
  simp only [Bool.and_eq_true, decide_eq_true_eq, List.all_eq_true] at h
  exact ⟨h.1.1, h.1.2, fun j b hb => h.2 b (List.mem_of_getElem? hb)⟩

/-! ### a strings.Builder -/
theorem cc_prim {k : Nat} (ho : Open P (km k))
    (h0 : ∀ b w, w.cell? ⟨b, 0, none⟩ = some (.pointer (some ⟨b, 0, none⟩)) → Calls P (km k) #[.pointer (some ⟨b, 0, none⟩)] w fun e w' => e = .returned (.tuple #[]) ∧ w' = w)
    (h1 : ∀ b w, w.cell? ⟨b, 0, none⟩ = some (.pointer none) → w.shape? b = some (km.bt, 2) → w.frozen? ⟨b, 0, none⟩ = false → Calls P (km k) #[.pointer (some ⟨b, 0, none⟩)] w fun e w' => e = .returned (.tuple #[]) ∧ w' = w.setCell ⟨b, 0, none⟩ (.pointer (some ⟨b, 0, none⟩))) :
    PrimOk km P k ccF := by
  intro args σ r σ' hF
  refine ⟨ho, fun cx K w vs hi hlen hr => ?_⟩
  unfold ccF at hF
  split at hF
  · rename_i o g es i j
    split at hF
    · rename_i hq
      obtain ⟨rfl, rfl, rfl, rfl⟩ := hq
      obtain ⟨v, rfl⟩ : ∃ v, vs = [v] := List.length_eq_one_iff.1 (by simpa using hlen)
      have rv := hr 0 v _ rfl rfl
      cases rv with
      | bx _ _ _ _ _ b hk =>
      have hv : (Value.pointer (some ⟨b, 0 * 2 + 0, none⟩)) = .pointer (some ⟨b, 0, none⟩) := rfl
      rw [hv]
      split at hF
      · rename_i c hm
        simp only [Option.some.injEq, Prod.mk.injEq] at hF
        obtain ⟨rfl, rfl⟩ := hF
        obtain ⟨b', hk', hcells⟩ := hi.dom _ _ _ hm
        obtain rfl : b' = b := by rw [hk] at hk'; simpa using hk'.symm
        obtain ⟨u0, c0, _, r0, _⟩ := hcells.cell 0 0 _ _ rfl rfl
        have e0 := r0.inv_sc.1
        subst e0
        have hfz : w.frozen? ⟨b', 0, none⟩ = false := by
          cases hf : w.frozen? ⟨b', 0, none⟩ with
          | false => rfl
          | true => have := ((hi.alv _ _ _ _ hm rfl hk).2 _ hf).1; cases this
        refine (h1 b' w c0 ((hi.bld _ _ _ hk).1 rfl) hfz).mono ?_
        rintro e w' ⟨rfl, rfl⟩
        obtain ⟨f1, f2⟩ := inv_set hi (x' := ⟨2, [.agg [.bx bldAt g 2 0 0, c]], true, true⟩) hm rfl rfl hk 0 [.pointer (some ⟨b', 0, none⟩)] (fun v hv => by simp at hv; subst hv; rfl) (by simp) ⟨rfl, rfl, rfl, rfl⟩
          (fun i e he => by
            have hi0 : i = 0 := by have := (List.getElem?_eq_some_iff.1 he).1; simp at this; exact this
            subst hi0; simp at he; subst he; rfl)
          (fun i j e p he hp => by
            have hi0 : i = 0 := by have := (List.getElem?_eq_some_iff.1 he).1; simp at this; exact this
            subst hi0; simp at he; subst he
            match j, hp with
            | 0, hp =>
              simp [cellsOf] at hp; subst hp
              left
              exact ⟨by simp, _, rfl, by simpa using Rep.bx (km := km) (L := w.cell?) (S := Stab cx K σ w) bldAt g 2 0 0 b' hk⟩
            | 1, hp =>
              right
              refine ⟨by simp, _, rfl, ?_⟩
              simpa [cellsOf] using hp
            | j + 2, hp => simp [cellsOf] at hp)
        refine ⟨.tuple #[], K, rfl, .tu [] [] rfl (fun i v p h => by simp at h), ?_, ?_⟩
        · exact f1
        · exact f2
      · rename_i o' g' es' i' j' c hm
        split at hF
        · rename_i hq
          obtain ⟨rfl, rfl, rfl, rfl, rfl⟩ := hq
          simp only [Option.some.injEq, Prod.mk.injEq] at hF
          obtain ⟨rfl, rfl⟩ := hF
          obtain ⟨b', hk', hcells⟩ := hi.dom _ _ _ hm
          obtain rfl : b' = b := by rw [hk] at hk'; simpa using hk'.symm
          obtain ⟨u0, c0, _, r0, _⟩ := hcells.cell 0 0 _ _ rfl rfl
          have e0 : u0 = .pointer (some ⟨b', 0, none⟩) := by
            cases r0 with
            | bx _ _ _ _ _ b2 hk2 =>
              obtain rfl : b2 = b' := by rw [hk] at hk2; simpa using hk2.symm
              rfl
          subst e0
          refine (h0 b' w c0).mono ?_
          rintro e w' ⟨rfl, rfl⟩
          exact ⟨.tuple #[], K, rfl, .tu [] [] rfl (fun i v p h => by simp at h), hi, Ext.refl⟩
        · cases hF
      · cases hF
    · cases hF
  · cases hF

/-- A world of which only what is frozen has turned, in a block of nobody's that may still be written. -/
theorem inv_frozen {w' : World} {b : Nat} (hi : Inv km cx K σ w) (hc : w'.cell? = w.cell?) (hsz : w'.heap.size = w.heap.size) (hb : Below cx.w0.heap.size w w') (hs : w'.shape? = w.shape?) (hh : ∀ k, k ≠ b → w'.heap[k]? = w.heap[k]?)
    (hn : ∀ o g x, σ.m o g = some x → x.al = true → K o g ≠ some b) (hmp : ∀ es clock, w.heap[b]? ≠ some (.map es clock)) : Inv km cx K σ w' ∧ Ext cx K σ w K σ w' := by
  have hst : Stab cx K σ w' = Stab cx K σ w := by
    funext a; unfold Stab; rw [hsz]
  have hrep : RepS km cx K σ w' = RepS km cx K σ w := by unfold RepS; rw [hc, hst]
  have hext : Ext cx K σ w K σ w' := ⟨fun _ _ _ h => h, fun a v _ h => by rw [hc]; exact h, fun a h _ => by rw [hst]; exact h, fun a h => by rw [hc]; exact h⟩
  refine ⟨⟨hi.bel.trans hb, fun o g b h => by rw [hsz]; exact hi.kb o g b h, hi.iss, fun o g x h => ?_, fun o g x c q1 q2 q3 => ?_, hi.dis, fun o g c h => ?_, fun o g l h => ?_, hi.mdis⟩, hext⟩
  · obtain ⟨c, h1, h2⟩ := hi.dom o g x h
    refine ⟨c, h1, h2.len, fun i j e p he hp => ?_⟩
    obtain ⟨v, q1, q2, q3, q4⟩ := h2.cell i j e p he hp
    exact ⟨v, by rw [hc]; exact q1, q2, by rw [hrep]; exact q3, fun h => by rw [hst]; exact q4 h⟩
  · have hne : c ≠ b := fun e => hn o g x q1 q2 (e ▸ q3)
    obtain ⟨⟨cs, t, fr, h1⟩, h2⟩ := hi.alv o g x c q1 q2 q3
    refine ⟨⟨cs, t, fr, by rw [hh c hne]; exact h1⟩, fun off hf => h2 off ?_⟩
    have : w'.frozen? ⟨c, off, none⟩ = w.frozen? ⟨c, off, none⟩ := by unfold World.frozen?; rw [hh c hne]
    rw [← this]; exact hf
  · have := hi.bld o g c h
    exact ⟨fun e => by rw [hs]; exact this.1 e, fun e => by rw [hs]; exact this.2 e⟩
  · obtain ⟨c, r1, r2⟩ := hi.mdom o g l h
    refine ⟨c, r1, r2.ext hext (hh c ?_)⟩
    rintro rfl
    obtain ⟨es, clock, h4, _⟩ := r2.heap
    exact hmp _ _ h4

theorem str_prim {k : Nat} (ho : Open P (km k))
    (h0 : ∀ b w, w.cell? ⟨b, 1, none⟩ = some (.slice none 0 0) → Calls P (km k) #[.pointer (some ⟨b, 0, none⟩)] w fun e w' => e = .returned (.string ⟨#[]⟩) ∧ w' = w.drew)
    (h1 : ∀ b c cap n (l : List UInt8) w, w.cell? ⟨b, 1, none⟩ = some (.slice (some ⟨c, 0, none⟩) l.length cap) → l ≠ [] → l.length ≤ cap → w.shape? c = some (km.bb, n) → l.length ≤ n → l.length ≤ 9223372036854775807 →
      (∀ j x, l[j]? = some x → w.cell? ⟨c, j, none⟩ = some (.int .u8 x.toNat)) → Calls P (km k) #[.pointer (some ⟨b, 0, none⟩)] w fun e w' => e = .returned (.string ⟨l.toArray⟩) ∧ w' = w.drew.freeze ⟨c, 0, none⟩ l.length) :
    PrimOk km P k strF := by
  intro args σ r σ' hF
  refine ⟨ho, fun cx K w vs hi hlen hr => ?_⟩
  unfold strF at hF
  split at hF
  · rename_i o g es i j
    split at hF
    · rename_i hq
      obtain ⟨rfl, rfl, rfl, rfl⟩ := hq
      obtain ⟨v, rfl⟩ : ∃ v, vs = [v] := List.length_eq_one_iff.1 (by simpa using hlen)
      have rv := hr 0 v _ rfl rfl
      cases rv with
      | bx _ _ _ _ _ b hk =>
      have hv : (Value.pointer (some ⟨b, 0 * 2 + 0, none⟩)) = .pointer (some ⟨b, 0, none⟩) := rfl
      rw [hv]
      split at hF
      · rename_i x1 x2 x3 hm
        simp only [Option.some.injEq, Prod.mk.injEq] at hF
        obtain ⟨rfl, rfl⟩ := hF
        obtain ⟨b', hk', hcells⟩ := hi.dom _ _ _ hm
        obtain rfl : b' = b := by rw [hk] at hk'; simpa using hk'.symm
        obtain ⟨u0, c0, _, r0, _⟩ := hcells.cell 0 1 _ _ rfl rfl
        have e0 := r0.inv_sc.1
        subst e0
        refine (h0 b' w (by simpa using c0)).mono ?_
        rintro e w' ⟨rfl, rfl⟩
        obtain ⟨g1, g2⟩ := inv_grow hi ((Below.refl _ w).drew)
        exact ⟨_, K, rfl, .sc _ rfl, g1, g2⟩
      · rename_i x1 o' g' es' i' n x2 x3 hm
        split at hF
        · rename_i hq
          obtain ⟨rfl, rfl, rfl⟩ := hq
          split at hF
          · rename_i xs wr hm'
            split at hF
            · rename_i hn
              obtain ⟨rfl, hpos, hbig⟩ := hn
              obtain ⟨bs, hbs, hF⟩ := Option.map_eq_some_iff.1 hF
              simp only [Prod.mk.injEq] at hF
              obtain ⟨rfl, rfl⟩ := hF
              have hxs := bytes?_at hbs
              have hlen2 : bs.length = xs.length := by rw [hxs]; simp
              obtain ⟨b', hk', hcells⟩ := hi.dom _ _ _ hm
              obtain rfl : b' = b := by rw [hk] at hk'; simpa using hk'.symm
              obtain ⟨u0, c0, _, r0, _⟩ := hcells.cell 0 1 _ _ rfl rfl
              obtain ⟨c, hkc, hcc⟩ := hi.dom _ _ _ hm'
              cases r0 with
              | ob _ _ _ _ _ cap c2 a hkc2 hcap ha hcs =>
              obtain rfl : c = c2 := by rw [hkc] at hkc2; simpa using hkc2
              have ha' : a = some ⟨c, 0, none⟩ := by
                rcases ha with h | h
                · omega
                · rw [h]
              subst ha'
              obtain ⟨nn, hsh⟩ := (hi.bld _ _ _ hkc).2 rfl
              have hcell : ∀ j x, bs[j]? = some x → w.cell? ⟨c, j, none⟩ = some (.int .u8 x.toNat) := by
                intro j x hj
                have hxj : xs[j]? = some (.sc (.int .u8 x.toNat)) := by rw [hxs, List.getElem?_map, hj]; rfl
                obtain ⟨u, q1, _, q3, _⟩ := hcc.cell j 0 _ _ hxj rfl
                rw [q3.inv_sc.1] at q1
                simpa using q1
              have hnn : bs.length ≤ nn := by
                have hl : bs.length - 1 < bs.length := by omega
                have := hcell _ _ (List.getElem?_eq_getElem hl)
                unfold World.cell? at this
                unfold World.shape? at hsh
                cases hc : w.heap[c]? with
                | none => rw [hc] at this; simp at this
                | some ob =>
                  rw [hc] at this hsh
                  cases ob with
                  | cells cs t fr =>
                    simp only [Option.some.injEq, Prod.mk.injEq] at hsh
                    obtain ⟨_, h4⟩ := hsh
                    have h3 : bs.length - 1 < cs.size := (Array.getElem?_eq_some_iff.1 (show cs[bs.length - 1]? = _ from this)).1
                    omega
                  | _ => simp at this
              refine (h1 b' c cap nn bs w (by rw [hlen2]; simpa using c0) (by intro h; rw [h] at hlen2; simp at hlen2; omega) (by omega) hsh hnn (by omega) hcell).mono ?_
              rintro e w' ⟨rfl, rfl⟩
              obtain ⟨w1, w2⟩ := inv_weaken (σ' := σ.put bufAt g' (some ⟨1, xs, false, false⟩)) hi rfl (fun o g x' hx => by
                simp only [St.put] at hx
                split at hx
                · rename_i hq
                  obtain ⟨rfl, rfl⟩ := hq
                  simp only [Option.some.injEq] at hx
                  subst hx
                  exact ⟨_, hm', rfl, rfl, (fun h => by cases h), (fun h => by cases h)⟩
                · exact ⟨x', hx, rfl, rfl, id, id⟩)
              have hkb := hi.kb _ _ _ hkc
              have hz : ¬ bs.length = 0 := by omega
              have hfh : ∀ a, (w.drew.freeze ⟨c, 0, none⟩ bs.length).heap[a]? = if c = a then (w.heap[a]?).map (fun
                  | .cells c elem (lo, hi) => .cells c elem (if lo == hi then (0, 0 + bs.length) else (min lo 0, max hi (0 + bs.length)))
                  | o => o) else w.heap[a]? := fun a => by
                simp only [World.freeze, if_neg hz, Array.getElem?_modify]
                rfl
              have hfc : ∀ a, (w.drew.freeze ⟨c, 0, none⟩ bs.length).cell? a = w.cell? a := fun a => by
                unfold World.cell?
                rw [hfh]
                by_cases h : c = a.block
                · rw [if_pos h]
                  cases hb : w.heap[a.block]? with
                  | none => rfl
                  | some ob => cases ob <;> rfl
                · rw [if_neg h]
              have hfs : ∀ a, (w.drew.freeze ⟨c, 0, none⟩ bs.length).shape? a = w.shape? a := fun a => by
                unfold World.shape?
                rw [hfh]
                by_cases h : c = a
                · rw [if_pos h]
                  cases hb : w.heap[a]? with
                  | none => rfl
                  | some ob => cases ob <;> rfl
                · rw [if_neg h]
              obtain ⟨v1, v2⟩ := inv_frozen (w' := w.drew.freeze ⟨c, 0, none⟩ bs.length) (b := c) w1 (funext hfc) (by simp only [World.freeze, if_neg hz, Array.size_modify]; rfl) (Lib.below_freeze ((Below.refl _ w).drew) (p := ⟨c, 0, none⟩) hkb.1 _) (funext hfs)
                (fun k hk => by rw [hfh, if_neg (Ne.symm hk)])
                (fun o g x hx hal hko => by
                  simp only [St.put] at hx
                  split at hx
                  · simp only [Option.some.injEq] at hx; subst hx; cases hal
                  · rename_i hq
                    exact hq (hi.dis _ _ _ _ _ _ _ hx hal hko hm' rfl hkc))
                (fun es clock h => by
                  obtain ⟨⟨d, t, fr, h4⟩, _⟩ := hi.alv _ _ _ _ hm' rfl hkc
                  rw [h4] at h
                  cases h)
              exact ⟨_, K, rfl, .sc _ rfl, v1, w2.trans v2⟩
            · cases hF
          · cases hF
        · cases hF
      · cases hF
    · cases hF
  · cases hF
end

section
open Go.Shelf
variable {P : Program} {ρ : Ren}

theorem bstr_some (L : Lays.n169 P ρ) (X : Builder.Extra P ρ) (b g cap n : Nat) (l : List UInt8) (w : World) (c0 : w.cell? ⟨b, 1, none⟩ = some (.slice (some ⟨g, 0, none⟩) l.length cap)) (h0 : l ≠ []) (hcap : l.length ≤ cap) (hsh : w.shape? g = some (ρ.t 5, n))
    (hn : l.length ≤ n) (h63 : l.length ≤ 9223372036854775807) (hcell : ∀ j x, l[j]? = some x → w.cell? ⟨g, j, none⟩ = some (.int .u8 x.toNat)) :
    Calls P (ρ.f 169) #[.pointer (some ⟨b, 0, none⟩)] w fun e w' => e = .returned (.string ⟨l.toArray⟩) ∧ w' = w.drew.freeze ⟨g, 0, none⟩ l.length := by
  have hl0 : l.length ≠ 0 := by simpa using h0
  have c1 : w.drew.cell? ⟨b, 1, none⟩ = some (.slice (some ⟨g, 0, none⟩) l.length cap) := c0
  have hSD : (Builtin.unsafeSliceData_ #[(ρ.t 37)] (ρ.t 127) #[.slice (some ⟨g, 0, none⟩) l.length cap]).run P w.drew = .ok (.pointer (some ⟨g, 0, none⟩)) w.drew :=
    Lib.run_unsafeSliceData_row _ _ _ _ _ _ (by omega)
  have hUS : (Builtin.unsafeString_ #[(ρ.t 127), (ρ.t 3)] (ρ.t 9) #[.pointer (some ⟨g, 0, none⟩), .int .i64 l.length]).run P w.drew = .ok (.string ⟨l.toArray⟩) (w.drew.freeze ⟨g, 0, none⟩ l.length) := by
    refine Lib.run_unsafeString_row w.drew (ρ.t 127) (ρ.t 3) (ρ.t 9) (ρ.t 5) L.t127 X.cellsByte g n hsh l h0 hn h63 ?_
    intro j x hx
    have := hcell j x hx
    have e : (⟨g, 0, none⟩ : Addr).add j = ⟨g, j, none⟩ := by cases j <;> simp [Addr.add]
    rw [e]; exact this
  have mixed := L.mixed
  have t72 := L.t72; have a72 := L.a72; have z72 := L.z72; have v72 := L.v72; have u72 := run_underlying L.t72
  have t70 := L.t70; have a70 := L.a70; have z70 := L.z70; have v70 := L.v70; have u70 := run_underlying L.t70
  have t37 := L.t37; have a37 := L.a37; have z37 := L.z37; have v37 := L.v37; have u37 := run_underlying L.t37
  have t127 := L.t127; have a127 := L.a127; have z127 := L.z127; have v127 := L.v127; have u127 := run_underlying L.t127
  have t3 := L.t3; have a3 := L.a3; have z3 := L.z3; have v3 := L.v3; have u3 := run_underlying L.t3
  have t9 := L.t9; have a9 := L.a9; have z9 := L.z9; have v9 := L.v9; have u9 := run_underlying L.t9
  have t5 := X.t5; have a5 := X.a5; have z5 := X.z5; have v5 := X.v5; have u5 := run_underlying X.t5
  go_enter L.f169, Body.n169_ntmps ρ
  go_wp2
  go_region_o
  all_goals (go_wp2; go_ret; exact ⟨rfl, rfl⟩)

theorem bstr_none (L : Lays.n169 P ρ) (X : Builder.Extra P ρ) (b : Nat) (w : World) (c0 : w.cell? ⟨b, 1, none⟩ = some (.slice none 0 0)) :
    Calls P (ρ.f 169) #[.pointer (some ⟨b, 0, none⟩)] w fun e w' => e = .returned (.string ⟨#[]⟩) ∧ w' = w.drew := by
  have hUS := Any.unsafeString_none L X
  have c1 : w.drew.cell? ⟨b, 1, none⟩ = some (.slice none 0 0) := c0
  have hSD : (Builtin.unsafeSliceData_ #[(ρ.t 37)] (ρ.t 127) #[.slice none 0 0]).run P w.drew = .ok (.pointer none) w.drew := rfl
  have mixed := L.mixed
  have t72 := L.t72; have a72 := L.a72; have z72 := L.z72; have v72 := L.v72; have u72 := run_underlying L.t72
  have t70 := L.t70; have a70 := L.a70; have z70 := L.z70; have v70 := L.v70; have u70 := run_underlying L.t70
  have t37 := L.t37; have a37 := L.a37; have z37 := L.z37; have v37 := L.v37; have u37 := run_underlying L.t37
  have t127 := L.t127; have a127 := L.a127; have z127 := L.z127; have v127 := L.v127; have u127 := run_underlying L.t127
  have t3 := L.t3; have a3 := L.a3; have z3 := L.z3; have v3 := L.v3; have u3 := run_underlying L.t3
  have t9 := L.t9; have a9 := L.a9; have z9 := L.z9; have v9 := L.v9; have u9 := run_underlying L.t9
  have t5 := X.t5; have a5 := X.a5; have z5 := X.z5; have v5 := X.v5; have u5 := run_underlying X.t5
  go_enter L.f169, Body.n169_ntmps ρ
  go_wp2
  go_region_o
  all_goals (go_wp2; go_ret; exact ⟨rfl, rfl⟩)
end
end Go.Proofs.YtcpgkdaicglogaaGreatDoorPv
