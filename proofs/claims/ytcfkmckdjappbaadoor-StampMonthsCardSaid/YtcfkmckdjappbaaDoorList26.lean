/-
  A text of 26 bytes and its shape: plain laws.
-/
import Derived.Test.YtcfkmckdjappbaaDoorParse1
namespace Go.Proofs.YtcfkmckdjappbaaDoor
open Go.RowKit Own
set_option linter.unusedVariables false
set_option linter.unusedSimpArgs false
set_option maxRecDepth 10000

theorem enc_valid (c : UInt8) : Utf8.valid (c.toNat : Int) = true := by
  have := c.toNat_lt
  simp only [Utf8.valid, Bool.or_eq_true, Bool.and_eq_true, decide_eq_true_eq]
  exact Or.inl ⟨by omega, by omega⟩
theorem encL_small (c : UInt8) (h : c.toNat < 128) : encL c = [c] := by
  have hv := enc_valid c
  unfold encL Utf8.encode
  simp only [hv, if_true, Int.toNat_natCast]
  rw [if_pos h]
  show [UInt8.ofNat c.toNat] = [c]
  rw [UInt8.ofNat_toNat]
theorem encL_great (c : UInt8) (h : 128 ≤ c.toNat) : 2 ≤ (encL c).length ∧ (encL c).length ≤ 4 := by
  have := encode_facts (c.toNat : Int) (enc_valid c) (by omega)
  have e : (encL c).length = (Utf8.encode (c.toNat : Int)).size := by simp only [encL, ByteArray.size, Array.length_toList]
  rw [e]
  exact ⟨this.1, this.2.1⟩
theorem encL_len (c : UInt8) : (encL c).length ≤ 4 := by
  by_cases h : c.toNat < 128
  · rw [encL_small c h]; show 1 ≤ 4; omega
  · exact (encL_great c (by omega)).2

theorem uncons {n : Nat} (l : List UInt8) (h : l.length = n + 1) : ∃ c l', l = c :: l' ∧ l'.length = n := by
  cases l with
  | nil => simp at h
  | cons c l' => exact ⟨c, l', rfl, by simpa using h⟩
theorem list26 (l : List UInt8) (h : l.length = 26) : ∃ c0 c1 c2 c3 c4 c5 c6 c7 c8 c9 c10 c11 c12 c13 c14 c15 c16 c17 c18 c19 c20 c21 c22 c23 c24 c25 : UInt8, l = [c0, c1, c2, c3, c4, c5, c6, c7, c8, c9, c10, c11, c12, c13, c14, c15, c16, c17, c18, c19, c20, c21, c22, c23, c24, c25] := by
  obtain ⟨c0, l0, rfl, h0⟩ := uncons l h
  obtain ⟨c1, l1, rfl, h1⟩ := uncons l0 h0
  obtain ⟨c2, l2, rfl, h2⟩ := uncons l1 h1
  obtain ⟨c3, l3, rfl, h3⟩ := uncons l2 h2
  obtain ⟨c4, l4, rfl, h4⟩ := uncons l3 h3
  obtain ⟨c5, l5, rfl, h5⟩ := uncons l4 h4
  obtain ⟨c6, l6, rfl, h6⟩ := uncons l5 h5
  obtain ⟨c7, l7, rfl, h7⟩ := uncons l6 h6
  obtain ⟨c8, l8, rfl, h8⟩ := uncons l7 h7
  obtain ⟨c9, l9, rfl, h9⟩ := uncons l8 h8
  obtain ⟨c10, l10, rfl, h10⟩ := uncons l9 h9
  obtain ⟨c11, l11, rfl, h11⟩ := uncons l10 h10
  obtain ⟨c12, l12, rfl, h12⟩ := uncons l11 h11
  obtain ⟨c13, l13, rfl, h13⟩ := uncons l12 h12
  obtain ⟨c14, l14, rfl, h14⟩ := uncons l13 h13
  obtain ⟨c15, l15, rfl, h15⟩ := uncons l14 h14
  obtain ⟨c16, l16, rfl, h16⟩ := uncons l15 h15
  obtain ⟨c17, l17, rfl, h17⟩ := uncons l16 h16
  obtain ⟨c18, l18, rfl, h18⟩ := uncons l17 h17
  obtain ⟨c19, l19, rfl, h19⟩ := uncons l18 h18
  obtain ⟨c20, l20, rfl, h20⟩ := uncons l19 h19
  obtain ⟨c21, l21, rfl, h21⟩ := uncons l20 h20
  obtain ⟨c22, l22, rfl, h22⟩ := uncons l21 h21
  obtain ⟨c23, l23, rfl, h23⟩ := uncons l22 h22
  obtain ⟨c24, l24, rfl, h24⟩ := uncons l23 h23
  obtain ⟨c25, l25, rfl, h25⟩ := uncons l24 h24
  have : l25 = [] := List.eq_nil_of_length_eq_zero h25
  subst this
  exact ⟨c0, c1, c2, c3, c4, c5, c6, c7, c8, c9, c10, c11, c12, c13, c14, c15, c16, c17, c18, c19, c20, c21, c22, c23, c24, c25, rfl⟩

theorem shB_dig (k : Nat) (c : UInt8) (h : shB k c = 57) : isDig c := by
  by_cases hd : isDig c
  · exact hd
  · unfold shB at h
    rw [if_neg hd] at h
    split at h
    · exact absurd h (by decide)
    · subst h; exact ⟨by decide, by decide⟩
theorem shB_self (k : Nat) (c x : UInt8) (h : shB k c = x) (h1 : x ≠ 57) (h2 : x ≠ 43) : c = x := by
  unfold shB at h
  split at h
  · exact absurd h.symm h1
  · split at h
    · exact absurd h.symm h2
    · exact h
theorem shB_sign (c : UInt8) (h : shB 21 c = 43) : c = 43 ∨ c = 45 := by
  unfold shB at h
  split at h
  · exact absurd h (by decide)
  · split at h
    · rename_i h2; exact .inr (UInt8.toNat_inj.mp h2.2)
    · exact .inl h

/-- What the shape's test says. -/
def Shaped26 (l : List UInt8) : Prop :=
  isDig (dig0 l) ∧ restL l = dig0 l :: (sl 1 3 l ++ [120, 120, 120] ++ sl 6 26 l) ∧ (∀ c ∈ sl 1 2 l, isDig c) ∧ l[2]? = some 45 ∧ l[6]? = some 45 ∧ (∀ c ∈ sl 7 11 l, isDig c) ∧ l[11]? = some 32 ∧ (∀ c ∈ sl 12 14 l, isDig c) ∧ l[14]? = some 58 ∧ (∀ c ∈ sl 15 17 l, isDig c) ∧ l[17]? = some 58 ∧ (∀ c ∈ sl 18 20 l, isDig c) ∧ l[20]? = some 32 ∧ (l[21]? = some 43 ∨ l[21]? = some 45) ∧ (∀ c ∈ sl 22 24 l, isDig c) ∧ (∀ c ∈ sl 24 26 l, isDig c)

theorem shape_says (l : List UInt8) (h : l.length = 26) (hs : shL (restL l) = patL) : Shaped26 l := by
  obtain ⟨c0, c1, c2, c3, c4, c5, c6, c7, c8, c9, c10, c11, c12, c13, c14, c15, c16, c17, c18, c19, c20, c21, c22, c23, c24, c25, rfl⟩ := list26 l h
  have hsm : (dig0 [c0, c1, c2, c3, c4, c5, c6, c7, c8, c9, c10, c11, c12, c13, c14, c15, c16, c17, c18, c19, c20, c21, c22, c23, c24, c25]).toNat < 128 := by
    rcases Nat.lt_or_ge (dig0 [c0, c1, c2, c3, c4, c5, c6, c7, c8, c9, c10, c11, c12, c13, c14, c15, c16, c17, c18, c19, c20, c21, c22, c23, c24, c25]).toNat 128 with c | c
    · exact c
    · have h2 := (encL_great _ c).1
      have h3 := congrArg List.length hs
      rw [shL_len] at h3
      simp [restL, sl, patL] at h3
      omega
  have hr : restL [c0, c1, c2, c3, c4, c5, c6, c7, c8, c9, c10, c11, c12, c13, c14, c15, c16, c17, c18, c19, c20, c21, c22, c23, c24, c25] = dig0 [c0, c1, c2, c3, c4, c5, c6, c7, c8, c9, c10, c11, c12, c13, c14, c15, c16, c17, c18, c19, c20, c21, c22, c23, c24, c25] :: (sl 1 3 [c0, c1, c2, c3, c4, c5, c6, c7, c8, c9, c10, c11, c12, c13, c14, c15, c16, c17, c18, c19, c20, c21, c22, c23, c24, c25] ++ [120, 120, 120] ++ sl 6 26 [c0, c1, c2, c3, c4, c5, c6, c7, c8, c9, c10, c11, c12, c13, c14, c15, c16, c17, c18, c19, c20, c21, c22, c23, c24, c25]) := by
    unfold restL
    rw [encL_small _ hsm]
    rfl
  refine ⟨?_, hr, ?_⟩
  all_goals
    rw [hr] at hs
    generalize dig0 [c0, c1, c2, c3, c4, c5, c6, c7, c8, c9, c10, c11, c12, c13, c14, c15, c16, c17, c18, c19, c20, c21, c22, c23, c24, c25] = d at *
    simp only [sl, List.take_succ_cons, List.take_zero, List.drop_succ_cons, List.drop_zero, List.cons_append, List.nil_append, shL, List.mapIdx_cons, List.mapIdx_nil, patL, List.cons.injEq, Nat.zero_add, Nat.reduceAdd] at hs
    obtain ⟨k0, k1, k2, _, _, _, k6, k7, k8, k9, k10, k11, k12, k13, k14, k15, k16, k17, k18, k19, k20, k21, k22, k23, k24, k25, _⟩ := hs
  · exact shB_dig 0 d k0
  · have m2 := shB_self _ _ _ k2 (by decide) (by decide)
    have m6 := shB_self _ _ _ k6 (by decide) (by decide)
    have m11 := shB_self _ _ _ k11 (by decide) (by decide)
    have m14 := shB_self _ _ _ k14 (by decide) (by decide)
    have m17 := shB_self _ _ _ k17 (by decide) (by decide)
    have m20 := shB_self _ _ _ k20 (by decide) (by decide)
    have m21 := shB_sign _ k21
    have d1 := shB_dig _ _ k1
    have d7 := shB_dig _ _ k7
    have d8 := shB_dig _ _ k8
    have d9 := shB_dig _ _ k9
    have d10 := shB_dig _ _ k10
    have d12 := shB_dig _ _ k12
    have d13 := shB_dig _ _ k13
    have d15 := shB_dig _ _ k15
    have d16 := shB_dig _ _ k16
    have d18 := shB_dig _ _ k18
    have d19 := shB_dig _ _ k19
    have d22 := shB_dig _ _ k22
    have d23 := shB_dig _ _ k23
    have d24 := shB_dig _ _ k24
    have d25 := shB_dig _ _ k25
    simp [sl, m2, m6, m11, m14, m17, m20, d1, d7, d8, d9, d10, d12, d13, d15, d16, d18, d19, d22, d23, d24, d25]
    exact m21

end Go.Proofs.YtcfkmckdjappbaaDoor
