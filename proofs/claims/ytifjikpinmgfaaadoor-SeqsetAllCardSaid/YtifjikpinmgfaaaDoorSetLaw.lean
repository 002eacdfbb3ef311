/-
  Sets of numbers: the plain laws of the statements. No walk here.
-/
import Derived.Test.YtifjikpinmgfaaaDoorRParse
import Derived.Test.YtifjikpinmgfaaaDoorRPrint
namespace Go.Proofs.YtifjikpinmgfaaaDoor.Sq
open Go.Proofs.YtifjikpinmgfaaaDoor Dec
set_option linter.unusedVariables false
set_option linter.unusedSimpArgs false
set_option maxRecDepth 100000

theorem numR_digs {n : Nat} (h : n ≤ 4294967295) : numR (Text.digs n) 4294967295 = ((n : Int), true) := by
  have h1 := Text.digs_len 9 n (by have : (10 : Nat) ^ (9 + 1) = 10000000000 := rfl; omega)
  have h2 := Text.digs_len_pos n
  rw [numR_digits _ _ (by omega) h1 (digs_dig n), digs_num, if_neg (by rintro (h | h); exact h rfl; omega)]
theorem numS_txt {n : Int} (h0 : 0 ≤ n) (h1 : n ≤ 4294967295) : numS (txt n) = (n, true) := by
  by_cases h : n = 0
  · subst h; rfl
  · obtain ⟨k, rfl⟩ : ∃ k : Nat, n = k := ⟨n.toNat, by omega⟩
    have ht : txt (k : Int) = Text.digs k := by unfold txt; rw [if_neg h, itoa_digs]
    have hne : Text.digs k ≠ [42] := by
      intro e
      have := digs_dig k 42 (by rw [e]; simp)
      unfold isDig at this
      exact absurd this.1 (by decide)
    rw [ht]
    unfold numS
    rw [if_neg hne, numR_digs (by omega)]
    simp
    omega
theorem txt_no {n : Int} (h0 : 0 ≤ n) (c : UInt8) (hc : c = 44 ∨ c = 58) : c ∉ txt n := by
  by_cases h : n = 0
  · subst h
    show c ∉ ([42] : List UInt8)
    rcases hc with rfl | rfl <;> decide
  · obtain ⟨k, rfl⟩ : ∃ k : Nat, n = k := ⟨n.toNat, by omega⟩
    have ht : txt (k : Int) = Text.digs k := by unfold txt; rw [if_neg h, itoa_digs]
    rw [ht]
    intro hm
    have := digs_dig k c hm
    unfold isDig at this
    rcases hc with rfl | rfl
    · exact absurd this.1 (by decide)
    · exact absurd this.2 (by decide)
theorem partS_rtxt {r : Rg} (h : okR r = true) : partS (rtxt r) = some r := by
  obtain ⟨h1, h2, h3, h4⟩ := okR_iff h
  obtain ⟨a, b⟩ := r
  dsimp only at h1 h2 h3 h4
  unfold rtxt
  by_cases he : a = b
  · subst he
    rw [if_pos rfl, partS_one (txt_no h1 58 (.inr rfl)), numS_txt h1 h2]
    rfl
  · rw [if_neg he]
    show partS (txt a ++ [58] ++ txt b) = _
    rw [List.append_assoc]
    show partS (txt a ++ 58 :: txt b) = _
    rw [partS_two (txt_no h1 58 (.inr rfl)), numS_txt h1 h2, numS_txt h3 h4]
    rfl
theorem rtxt_no {r : Rg} (h : okR r = true) : (44 : UInt8) ∉ rtxt r := by
  obtain ⟨h1, h2, h3, h4⟩ := okR_iff h
  unfold rtxt
  split
  · exact txt_no h1 44 (.inl rfl)
  · intro hm
    rcases List.mem_append.1 hm with hm | hm
    · rcases List.mem_append.1 hm with hm | hm
      · exact txt_no h1 44 (.inl rfl) hm
      · simp at hm
    · exact txt_no h3 44 (.inl rfl) hm
theorem split_join : ∀ (l : List Rg), l ≠ [] → l.all okR = true → Spl.splitL 44 (Lib.join (l.map rtxt) [44]) = l.map rtxt
  | [], h, _ => absurd rfl h
  | [r], _, h => by
    have hr : okR r = true := by simpa using h
    rw [List.map_cons, List.map_nil, Lib.join_one, Spl.splitL_none (rtxt_no hr)]
  | r :: s :: t, _, h => by
    have hr : okR r = true := by simp at h; exact h.1
    have ht : (s :: t).all okR = true := by simp at h; simp; exact h.2
    have ih := split_join (s :: t) (by simp) ht
    have hj : Lib.join ((r :: s :: t).map rtxt) [44] = rtxt r ++ 44 :: Lib.join ((s :: t).map rtxt) [44] := by
      rw [List.map_cons, List.map_cons, Lib.join_cons, Lib.join_cons]
      simp [Lib.joinTail]
    rw [hj, Spl.splitL_at _ (rtxt_no hr), ih]
    rfl
theorem parts_all : ∀ (l : List Rg), l.all okR = true → partsS (l.map rtxt) = some l
  | [], _ => rfl
  | r :: t, h => by
    have hr : okR r = true := by simp at h; exact h.1
    have ht : t.all okR = true := by simp at h; simp; exact h.2
    rw [List.map_cons, partsS_some _ (partS_rtxt hr), parts_all t ht]
    rfl
theorem printS_ok {l : List Rg} {s : List UInt8} (h : printS l = (s, 0)) : parseS s = (l, 0) := by
  unfold printS at h
  split at h
  · simp at h
  · rename_i h1
    split at h
    · simp at h
    · rename_i h2
      split at h
      · simp at h
      · rename_i h3
        have h1' : l.all okR = true := by cases hq : l.all okR <;> simp_all
        obtain rfl : Lib.join (l.map rtxt) [44] = s := by simpa using h
        unfold parseS
        rw [split_join l (by rintro rfl; exact h2 rfl) h1', parts_all l h1']
        show (if 16 < l.length then (([] : List Rg), (5 : Int)) else (l, 0)) = (l, 0)
        rw [if_neg h3]
theorem printS_err {l : List Rg} : (printS l).2 = 0 ∨ (printS l).2 = 190 ∨ (printS l).2 = 5 := by
  unfold printS
  split
  · exact .inr (.inl rfl)
  · split
    · exact .inr (.inl rfl)
    · split
      · exact .inr (.inr rfl)
      · exact .inl rfl

theorem great_le (l : List Int) : ∀ x ∈ l, x ≤ great l := by
  have h : ∀ (l : List Int) (a : Int), a ≤ l.foldl max a ∧ ∀ x ∈ l, x ≤ l.foldl max a := by
    intro l
    induction l with
    | nil => intro a; exact ⟨Int.le_refl _, by simp⟩
    | cons y t ih =>
      intro a
      obtain ⟨h1, h2⟩ := ih (max a y)
      refine ⟨by simp; omega, fun x hx => ?_⟩
      rcases List.mem_cons.1 hx with rfl | hx
      · simp; omega
      · exact h2 x hx
  exact (h l 0).2
theorem pick_all (all : List Int) (r : Rg) (hr : r = (1, 0) ∨ r = (0, 1)) : pick [r] all = all.filter fun n => decide (1 ≤ n) := by
  unfold pick
  apply List.filter_congr
  intro x hx
  have hg := great_le all x hx
  unfold has
  by_cases h1 : 1 ≤ x
  · rw [decide_eq_true h1]
    have : inR x (great all) r = true := by
      unfold inR end_
      rcases hr with rfl | rfl
      all_goals
        rw [if_neg (by omega)]
        simp
        omega
    simp [this]
  · rw [decide_eq_false h1]; rfl
theorem inR_turn (n g a b : Int) : inR n g (a, b) = inR n g (b, a) := by
  unfold inR
  simp only [Int.min_comm (end_ g a), Int.max_comm (end_ g a), or_comm]
theorem pick_turn (l : List Rg) (all : List Int) : pick ((l.map fun r => (r.2, r.1)).reverse) all = pick l all := by
  unfold pick
  congr 1
  funext n
  unfold has
  rw [List.any_reverse, List.any_map]
  congr 2
  funext r
  exact (inR_turn n (great all) r.1 r.2).symm

theorem s1 : numS [49] = (1, true) := by
  unfold numS numR
  simp [numF, isDig, Text.digs_small, Text.dg]
theorem s3 : numS [51] = (3, true) := by
  unfold numS numR
  simp [numF, isDig, Text.digs_small, Text.dg]
theorem s5 : numS [53] = (5, true) := by
  unfold numS numR
  simp [numF, isDig, Text.digs_small, Text.dg]
theorem s01 : (numS [48, 49]).2 = false := by
  unfold numS numR
  simp [numF, isDig, Text.digs_small, Text.dg]
theorem s0 : (numS []).2 = false := by
  unfold numS numR
  simp
theorem pv1 : parseS [49, 58, 51, 44, 53, 44, 42] = ([(1, 3), (5, 5), (0, 0)], 0) := by
  unfold parseS
  rw [show Spl.splitL 44 [49, 58, 51, 44, 53, 44, 42] = [[49] ++ 58 :: [51], [53], [42]] from rfl]
  rw [partsS_some _ (r := (1, 3)) (by rw [partS_two (by decide), s1, s3]; rfl), partsS_some _ (r := (5, 5)) (by rw [partS_one (by decide), s5]; rfl), partsS_some _ (r := (0, 0)) (by rw [partS_one (by decide)]; rfl)]
  rfl
theorem pv2 : parseS [48, 49] = ([], 190) := by
  unfold parseS
  rw [show Spl.splitL 44 [48, 49] = [[48, 49]] from rfl, partsS_none _ (by rw [partS_one (by decide), s01]; rfl)]
  rfl
theorem pv3 : parseS [49, 58] = ([], 190) := by
  unfold parseS
  rw [show Spl.splitL 44 [49, 58] = [[49] ++ 58 :: []] from rfl, partsS_none _ (by rw [partS_two (by decide), s0]; simp)]
  rfl

end Go.Proofs.YtifjikpinmgfaaaDoor.Sq
