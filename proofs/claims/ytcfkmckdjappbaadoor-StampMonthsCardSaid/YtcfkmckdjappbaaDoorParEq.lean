/-
  Parse of the reference reads as the program's does: plain laws.
-/
import Derived.Test.YtcfkmckdjappbaaDoorRParA
import Derived.Lib.IndexMore
namespace Go.Proofs.YtcfkmckdjappbaaDoor
open Go.RowKit Own
set_option linter.unusedVariables false
set_option linter.unusedSimpArgs false
set_option maxRecDepth 100000

theorem str_get (l : List UInt8) (k : Nat) (h : k < (str l).size) : (str l)[k]'h = l.getD k 0 := by
  have h2 : k < l.length := by rw [str_size] at h; exact h
  have : (str l)[k]'h = l[k]'h2 := rfl
  rw [this]
  simp [List.getD, h2]

def rparseP (l : List UInt8) : Int × Int :=
  if l.length ≠ 26 then (0, 80)
  else if bad1 (l.getD 2 0) (l.getD 6 0) (l.getD 11 0) (l.getD 14 0) (l.getD 17 0) (l.getD 20 0) (l.getD 21 0) = true then (0, 80)
  else if bad2 (dayQ l) (sl 7 11 l) (sl 12 14 l) (sl 15 17 l) (sl 18 20 l) (sl 22 24 l) (sl 24 26 l) (l.getD 0 0) = true then (0, 80)
  else momP ((secPair (digN (sl 7 11 l)) (lastM (sl 3 6 l) 12) (digN (dayQ l)) (digN (sl 12 14 l)) (digN (sl 15 17 l)) (digN (sl 18 20 l))).1 + (if l.getD 21 0 = 43 then -(digN (sl 22 24 l) * 3600 + digN (sl 24 26 l) * 60) else digN (sl 22 24 l) * 3600 + digN (sl 24 26 l) * 60)) (secPair (digN (sl 7 11 l)) (lastM (sl 3 6 l) 12) (digN (dayQ l)) (digN (sl 12 14 l)) (digN (sl 15 17 l)) (digN (sl 18 20 l))).2

theorem head_get (l : List UInt8) : l.headD 0 = l.getD 0 0 := by cases l <;> rfl

theorem rparse_any (l : List UInt8) (w : World) :
    Calls Tryd.prog 19 #[.string (str l)] w fun e w' => e = .returned (parseV (rparseP l)) ∧ Below w.heap.size w w' := by
  unfold rparseP
  by_cases h : l.length = 26
  · rw [if_neg (by simp [h])]
    have hsz : (str l).size = 26 := by rw [str_size, h]
    by_cases hb : bad1 (l.getD 2 0) (l.getD 6 0) (l.getD 11 0) (l.getD 14 0) (l.getD 17 0) (l.getD 20 0) (l.getD 21 0) = true
    · rw [if_pos hb]
      exact (rparse_first (str l) _ _ _ _ _ _ _ w hsz hb (str_get l 2) (str_get l 6) (str_get l 11) (str_get l 14) (str_get l 17) (str_get l 20) (str_get l 21)).mono fun _ _ ⟨he, hw⟩ => ⟨he, hw ▸ Below.refl _ _⟩
    · rw [if_neg hb]
      have n : ∀ a b, b ≤ 26 → b ≤ a + 8 → (sl a b l).length ≤ 8 := fun a b h1 h2 => by rw [sl_len _ _ _ (by omega)]; omega
      refine rparse_second (str l) (l.getD 0 0) _ _ _ _ _ _ (l.getD 21 0) (dayQ l) (sl 3 6 l) (sl 7 11 l) (sl 12 14 l) (sl 15 17 l) (sl 18 20 l) (sl 22 24 l) (sl 24 26 l) w hsz (by simpa using hb) (str_get l 0) (str_get l 2) (str_get l 6) (str_get l 11) (str_get l 14) (str_get l 17) (str_get l 20) (str_get l 21) ?_ ?_ (str_sl l 3 6) (str_sl l 7 11) (str_sl l 12 14) (str_sl l 15 17) (str_sl l 18 20) (str_sl l 22 24) (str_sl l 24 26) ?_ (n _ _ (by omega) (by omega)) (n _ _ (by omega) (by omega)) (n _ _ (by omega) (by omega)) (n _ _ (by omega) (by omega)) (n _ _ (by omega) (by omega)) (n _ _ (by omega) (by omega)) _ rfl
      · intro h0
        rw [str_sl]; unfold dayQ; rw [if_pos (by rw [head_get]; exact h0)]
      · intro h0
        rw [str_sl]; unfold dayQ; rw [if_neg (by rw [head_get]; exact h0)]
      · unfold dayQ; split
        · exact n 1 2 (by omega) (by omega)
        · exact n 0 2 (by omega) (by omega)
  · rw [if_pos (by simpa using h)]
    exact (rparse_len l w h).mono fun _ _ ⟨he, hw⟩ => ⟨he, hw ▸ Below.refl _ _⟩

/-- The names' text. -/
def monT : List UInt8 := monLit.data.toList
def at3 (i : Nat) : List UInt8 := (monT.drop i).take 3
theorem lastM_at : ∀ i, i < 34 → (i % 3 = 0 → lastM (at3 i) 12 = ((i / 3 + 1 : Nat) : Int)) ∧ (i % 3 ≠ 0 → lastM (at3 i) 12 = 0) := by
  decide
theorem monB_at : ∀ k, k < 12 → monB ((k + 1 : Nat) : Int) = str (at3 (3 * k)) := by
  decide
theorem lastM_none (q : List UInt8) (h : ∀ k, k < 12 → q ≠ at3 (3 * k)) : ∀ n, n ≤ 12 → lastM q n = 0
  | 0, _ => rfl
  | n + 1, hn => by
    unfold lastM
    rw [if_neg]
    · exact lastM_none q h n (by omega)
    · intro e
      rw [monB_at n (by omega)] at e
      exact h n (by omega) (str_inj e).symm
theorem month_law (q : List UInt8) (hq : q.length = 3) :
    (0 ≤ Lib.index monT q ∧ Lib.index monT q % 3 = 0 → lastM q 12 = Lib.index monT q / 3 + 1) ∧ (Lib.index monT q < 0 ∨ 0 < Lib.index monT q % 3 → lastM q 12 = 0) := by
  have hlen : monT.length = 36 := rfl
  rcases Lib.index_spec monT q with ⟨h1, h2⟩ | ⟨i, h1, h2, h3, _⟩
  · refine ⟨fun h => by omega, fun _ => ?_⟩
    apply lastM_none q _ 12 (by omega)
    intro k hk e
    have := h2 (3 * k) (by omega)
    rw [Lib.occAt_iff_take monT q (3 * k) (by omega), hq] at this
    rw [show (monT.drop (3 * k)).take 3 = q from e.symm] at this
    simp at this
  · have hr : i + 3 ≤ 36 := by
      rcases Lib.occAt_room h3 with h | h
      · omega
      · rw [h] at hq; simp at hq
    rw [Lib.occAt_iff_take monT q i (by omega), hq] at h3
    have hqi : q = at3 i := (by simpa using h3 : (monT.drop i).take 3 = q).symm
    have := lastM_at i (by omega)
    rw [← hqi] at this
    rw [h1]
    refine ⟨fun ⟨_, h⟩ => ?_, fun h => ?_⟩
    · rw [this.1 (by omega)]; omega
    · exact this.2 (by omega)

theorem dig0_32 (l : List UInt8) (h : l.headD 0 = 32) : dig0 l = 48 := if_pos h
theorem dig0_ne (l : List UInt8) (h : ¬ l.headD 0 = 32) : dig0 l = l.headD 0 := if_neg h
theorem dayQ_32 (l : List UInt8) (h : l.headD 0 = 32) : dayQ l = sl 1 2 l := if_pos h
theorem dayQ_ne (l : List UInt8) (h : ¬ l.headD 0 = 32) : dayQ l = sl 0 2 l := if_neg h
theorem shB_of_dig (k : Nat) (c : UInt8) (h : isDig c) : shB k c = 57 := by unfold shB; rw [if_pos h]
theorem digB_two (a b : UInt8) (h : digB [a, b] = true) : isDig a ∧ isDig b := by
  have := of_decide_eq_true h
  exact ⟨this a (by simp), this b (by simp)⟩
theorem digB_one (a : UInt8) (h : digB [a] = true) : isDig a := (of_decide_eq_true h) a (by simp)
theorem digB_four (a b c d : UInt8) (h : digB [a, b, c, d] = true) : isDig a ∧ isDig b ∧ isDig c ∧ isDig d := by
  have := of_decide_eq_true h
  exact ⟨this a (by simp), this b (by simp), this c (by simp), this d (by simp)⟩

theorem shape_of (l : List UInt8) (h : l.length = 26)
    (hb1 : bad1 (l.getD 2 0) (l.getD 6 0) (l.getD 11 0) (l.getD 14 0) (l.getD 17 0) (l.getD 20 0) (l.getD 21 0) = false)
    (hb2 : digB (dayQ l) = true ∧ digB (sl 7 11 l) = true ∧ digB (sl 12 14 l) = true ∧ digB (sl 15 17 l) = true ∧ digB (sl 18 20 l) = true ∧ digB (sl 22 24 l) = true ∧ digB (sl 24 26 l) = true) :
    shL (restL l) = patL := by
  obtain ⟨c0, c1, c2, c3, c4, c5, c6, c7, c8, c9, c10, c11, c12, c13, c14, c15, c16, c17, c18, c19, c20, c21, c22, c23, c24, c25, rfl⟩ := list26 l h
  obtain ⟨p0, p7, p12, p15, p18, p22, p24⟩ := hb2
  have d12 := digB_two c12 c13 p12
  have d15 := digB_two c15 c16 p15
  have d18 := digB_two c18 c19 p18
  have d22 := digB_two c22 c23 p22
  have d24 := digB_two c24 c25 p24
  have d7 := digB_four c7 c8 c9 c10 p7
  have d0 : isDig (dig0 [c0, c1, c2, c3, c4, c5, c6, c7, c8, c9, c10, c11, c12, c13, c14, c15, c16, c17, c18, c19, c20, c21, c22, c23, c24, c25]) ∧ isDig c1 := by
    by_cases e : [c0, c1, c2, c3, c4, c5, c6, c7, c8, c9, c10, c11, c12, c13, c14, c15, c16, c17, c18, c19, c20, c21, c22, c23, c24, c25].headD 0 = 32
    · rw [dayQ_32 _ e] at p0
      rw [dig0_32 _ e]
      exact ⟨⟨by decide, by decide⟩, digB_one c1 p0⟩
    · rw [dayQ_ne _ e] at p0
      rw [dig0_ne _ e]
      exact digB_two c0 c1 p0
  have hr : restL [c0, c1, c2, c3, c4, c5, c6, c7, c8, c9, c10, c11, c12, c13, c14, c15, c16, c17, c18, c19, c20, c21, c22, c23, c24, c25] = dig0 [c0, c1, c2, c3, c4, c5, c6, c7, c8, c9, c10, c11, c12, c13, c14, c15, c16, c17, c18, c19, c20, c21, c22, c23, c24, c25] :: (sl 1 3 [c0, c1, c2, c3, c4, c5, c6, c7, c8, c9, c10, c11, c12, c13, c14, c15, c16, c17, c18, c19, c20, c21, c22, c23, c24, c25] ++ [120, 120, 120] ++ sl 6 26 [c0, c1, c2, c3, c4, c5, c6, c7, c8, c9, c10, c11, c12, c13, c14, c15, c16, c17, c18, c19, c20, c21, c22, c23, c24, c25]) := by
    unfold restL
    rw [encL_small _ (by have := d0.1; unfold isDig at this; omega)]
    rfl
  rw [hr]
  generalize dig0 [c0, c1, c2, c3, c4, c5, c6, c7, c8, c9, c10, c11, c12, c13, c14, c15, c16, c17, c18, c19, c20, c21, c22, c23, c24, c25] = d at *
  simp [bad1] at hb1
  obtain ⟨⟨⟨⟨⟨⟨e2, e6⟩, e11⟩, e14⟩, e17⟩, e20⟩, e21⟩ := hb1
  have e21' : shB 21 c21 = 43 := by
    by_cases e : c21 = 43
    · rw [e]; decide
    · rw [e21 e]; decide
  subst e2 e6 e11 e14 e17 e20
  simp only [sl, List.take_succ_cons, List.take_zero, List.drop_succ_cons, List.drop_zero, List.cons_append, List.nil_append, shL, List.mapIdx_cons, List.mapIdx_nil, patL, Nat.zero_add, Nat.reduceAdd]
  rw [shB_of_dig 0 d d0.1, shB_of_dig _ c1 d0.2, shB_of_dig _ c7 d7.1, shB_of_dig _ c8 d7.2.1, shB_of_dig _ c9 d7.2.2.1, shB_of_dig _ c10 d7.2.2.2, shB_of_dig _ c12 d12.1, shB_of_dig _ c13 d12.2, shB_of_dig _ c15 d15.1, shB_of_dig _ c16 d15.2, shB_of_dig _ c18 d18.1, shB_of_dig _ c19 d18.2, shB_of_dig _ c22 d22.1, shB_of_dig _ c23 d22.2, shB_of_dig _ c24 d24.1, shB_of_dig _ c25 d24.2, e21']
  decide

theorem digB_of {l : List UInt8} (h : ∀ c ∈ l, isDig c) : digB l = true := decide_eq_true h
theorem digN_of {l : List UInt8} (h : ∀ c ∈ l, isDig c) : digN l = numI 0 l := by unfold digN; rw [if_pos (digB_of h)]

theorem parse_eq (l : List UInt8) : parseP l = rparseP l := by
  unfold rparseP parseP
  by_cases h : l.length = 26
  case neg => rw [if_pos (.inl h), if_pos h]
  rw [if_neg (c := l.length ≠ 26) (by simp [h])]
  by_cases h0 : l.headD 0 = 48
  · rw [if_pos (.inr h0)]
    split
    · rfl
    · rw [if_pos]
      rw [head_get] at h0
      unfold bad2
      rw [h0]
      simp
  rw [if_neg (by rintro (c | c); exact c h; exact h0 c)]
  by_cases hs : shL (restL l) = patL
  case neg =>
    rw [if_pos (.inr (.inr hs))]
    split
    · rfl
    · rename_i hb1
      split
      · rfl
      · rename_i hb2
        exfalso
        apply hs
        apply shape_of l h (by simpa using hb1)
        simp [bad2] at hb2
        simp [hb2]
  have hS := shape_says l h hs
  obtain ⟨z0, zr, z1, z2, z6, z7, z11, z12, z14, z15, z17, z18, z20, z21, z22, z24⟩ := hS
  have hb1 : bad1 (l.getD 2 0) (l.getD 6 0) (l.getD 11 0) (l.getD 14 0) (l.getD 17 0) (l.getD 20 0) (l.getD 21 0) = false := by
    simp only [List.getD, z2, z6, z11, z14, z17, z20]
    rcases z21 with e | e <;> simp [bad1, e]
  have hday : (∀ c ∈ dayQ l, isDig c) ∧ numI 0 (dayQ l) = numI 0 (sl 0 2 (restL l)) := by
    rw [zr]
    obtain ⟨c0, c1, c2, c3, c4, c5, c6, c7, c8, c9, c10, c11, c12, c13, c14, c15, c16, c17, c18, c19, c20, c21, c22, c23, c24, c25, rfl⟩ := list26 l h
    have hd1 : isDig c1 := z1 c1 (by simp [sl])
    by_cases e : [c0, c1, c2, c3, c4, c5, c6, c7, c8, c9, c10, c11, c12, c13, c14, c15, c16, c17, c18, c19, c20, c21, c22, c23, c24, c25].headD 0 = 32
    · rw [dig0_32 _ e, dayQ_32 _ e]
      refine ⟨fun c hc => ?_, ?_⟩
      · simp [sl] at hc; rw [hc]; exact hd1
      · simp [sl, numI]
    · rw [dig0_ne _ e] at z0
      rw [dig0_ne _ e, dayQ_ne _ e]
      refine ⟨fun c hc => ?_, ?_⟩
      · simp [sl] at hc
        rcases hc with hc | hc <;> rw [hc]
        · exact z0
        · exact hd1
      · simp [sl, numI]
  have hhead : (l.getD 0 0 == 48) = false := by rw [head_get] at h0; exact beq_eq_false_iff_ne.mpr h0
  rw [if_neg (c := bad1 _ _ _ _ _ _ _ = true) (by rw [hb1]; decide)]
  have hb2 : bad2 (dayQ l) (sl 7 11 l) (sl 12 14 l) (sl 15 17 l) (sl 18 20 l) (sl 22 24 l) (sl 24 26 l) (l.getD 0 0) = !(zoneB l) := by
    unfold bad2 zoneB
    rw [digB_of hday.1, digB_of z7, digB_of z12, digB_of z15, digB_of z18, digB_of z22, digB_of z24, hhead, digN_of z22, digN_of z24]
    by_cases a : numI 0 (sl 22 24 l) ≤ 14 <;> by_cases b : numI 0 (sl 24 26 l) ≤ 59
    · simp [a, b, show ¬ 14 < numI 0 (sl 22 24 l) by omega, show ¬ 59 < numI 0 (sl 24 26 l) by omega]
    · simp [a, b, show ¬ 14 < numI 0 (sl 22 24 l) by omega, show 59 < numI 0 (sl 24 26 l) by omega]
    · simp [a, b, show 14 < numI 0 (sl 22 24 l) by omega, show ¬ 59 < numI 0 (sl 24 26 l) by omega]
    · simp [a, b, show 14 < numI 0 (sl 22 24 l) by omega, show 59 < numI 0 (sl 24 26 l) by omega]
  rw [hb2, digN_of z7, digN_of hday.1, digN_of z12, digN_of z15, digN_of z18, digN_of z22, digN_of z24, hday.2]
  have hml := month_law (sl 3 6 l) (sl_len l 3 6 (by omega))
  have hmi : monI l = Lib.index monT (sl 3 6 l) := rfl
  rw [← hmi] at hml
  by_cases hm : monI l < 0 ∨ 0 < monI l % 3
  · have h12 := hml.2 hm
    rw [if_pos (by rcases hm with c | c; exact .inl c; exact .inr (.inl c)), h12]
    have hv : ∀ y d hh mi s, (secPair y 0 d hh mi s).2 = false := by
      intro y d hh mi s
      unfold secPair
      rw [if_neg (by unfold Valid; omega)]
    rw [hv]
    split
    · rfl
    · simp [momP]
  · have h12 := hml.1 (by omega)
    rw [if_neg (by rintro (c | c | c); exact hm (.inl c); exact hm (.inr c); exact c hs), h12]
    unfold secsP offI
    cases hz : zoneB l with
    | true => simp
    | false => simp [momP]

end Go.Proofs.YtcfkmckdjappbaaDoor
