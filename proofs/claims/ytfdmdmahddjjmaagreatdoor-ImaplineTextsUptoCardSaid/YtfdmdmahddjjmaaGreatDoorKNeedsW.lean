/-
  ImaplineNeeds: the plain law, and the walk.
-/
import Derived.Test.YtfdmdmahddjjmaaGreatDoorKImZ
import Derived.Test.YtfdmdmahddjjmaaGreatDoorPkOwn
namespace Go.Proofs.YtfdmdmahddjjmaaGreatDoor
open Go.RowKit Own Im
set_option linter.unusedVariables false
set_option linter.unusedSimpArgs false
set_option maxRecDepth 100000

namespace Dec
theorem digs_len10 {n : Nat} (h : n ≤ 9999999999) : (Text.digs n).length ≤ 10 := Text.digs_len 9 n (by have : (10 : Nat) ^ (9 + 1) = 10000000000 := rfl; omega)
theorem numR_self {n : Nat} (h : n ≤ 9999999999) (most : Int) : numR (Text.digs n) most = if most < n then (0, false) else ((n : Int), true) := by
  have h1 := digs_len10 h
  have h2 := Text.digs_len_pos n
  unfold numR
  rw [if_neg (by omega), if_neg (by simpa using digs_dig n), digs_num]
  by_cases hm : most < (n : Int)
  · rw [if_pos (.inr hm), if_pos hm]
  · rw [if_neg (by rintro (h | h); exact h rfl; exact hm h), if_neg hm]
theorem numR_zero (n : Nat) (most : Int) : numR (48 :: Text.digs n) most = (0, false) := by
  unfold numR
  by_cases hl : (48 :: Text.digs n).length < 1 ∨ 10 < (48 :: Text.digs n).length
  · rw [if_pos hl]
  rw [if_neg hl]
  have hd : ∀ c ∈ (48 :: Text.digs n : List UInt8), isDig c := by
    intro c hc
    rcases List.mem_cons.1 hc with rfl | h
    · unfold isDig; decide
    · exact digs_dig n c h
  rw [if_neg (by simpa using hd), if_pos]
  left
  have hn : numF 0 (48 :: Text.digs n) = n := by
    rw [numF_cons]
    show numF (10 * 0 + (48 - 48)) (Text.digs n) = n
    exact digs_num n
  rw [hn]
  intro e
  have := congrArg List.length e
  simp at this
end Dec
theorem digs_no {n : Nat} {c : UInt8} (h : ¬ Dec.isDig c) : c ∉ Text.digs n := fun hm => h (Dec.digs_dig n c hm)
theorem need_says (s : Bt) {n : Nat} (h : n ≤ 4294967295) : needS (s ++ 123 :: Text.digs n ++ [125]) = ((n : Int), true) := by
  rw [needS_at _ s (Text.digs n) rfl (digs_no (by unfold Dec.isDig; decide)), Dec.numR_self (by omega), if_neg (by unfold most; omega)]
theorem need_zero (s : Bt) (n : Nat) : needS (s ++ 123 :: 48 :: Text.digs n ++ [125]) = (0, false) := by
  rw [needS_at _ s (48 :: Text.digs n) rfl (by
    intro hm
    rcases List.mem_cons.1 hm with h | h
    · cases h
    · exact digs_no (by unfold Dec.isDig; decide) h), Dec.numR_zero]
theorem need_open (s : Bt) (n : Nat) : needS (s ++ 123 :: Text.digs n) = (0, false) := by
  obtain ⟨t, c, ht⟩ : ∃ t c, Text.digs n = t ++ [c] := by
    rcases List.eq_nil_or_concat (Text.digs n) with h | ⟨t, c, h⟩
    · exact absurd h (Dec.digs_ne n)
    · exact ⟨t, c, by rw [h, List.concat_eq_append]⟩
  refine needS_none _ (s ++ 123 :: t) c (by rw [ht]; simp) (.inl ?_)
  rintro rfl
  exact digs_no (n := n) (c := 125) (by unfold Dec.isDig; decide) (by rw [ht]; simp)
theorem need_more (s : Bt) (n : Nat) : needS (s ++ 123 :: Text.digs n ++ [125, 120]) = (0, false) :=
  needS_none _ (s ++ 123 :: Text.digs n ++ [125]) 120 (by simp) (.inl (by decide))

attribute [local go_sem] str_toList str_size ByteArray.size_append

set_option maxHeartbeats 8000000 in
theorem needs_walk (s : List UInt8) (n : Int) (w : World) (hG : Gd w) (hs : s.length ≤ 2147483648) :
    Calls Tryz.prog 4 #[.string (str s), .int .i64 n] w fun e w' => e = .returned (.bool true) ∧ Below w.heap.size w w' := by
  have HG := hid hG
  clear hG
  by_cases h0 : n < 0
  · go_enter Tryz.func4, Tryz.ntmps4
    go_wp2_with (go_at_call 8; refine (shown_any w HG.out).mono ?_; rintro e w1 ⟨rfl, c1⟩; have b1 := hid c1; clear c1)
    go_ret
    exact ⟨rfl, b1.out⟩
  by_cases h1 : 4294967296 ≤ n
  · go_enter Tryz.func4, Tryz.ntmps4
    go_wp2_with (go_at_call 8; refine (shown_any w HG.out).mono ?_; rintro e w1 ⟨rfl, c1⟩; have b1 := hid c1; clear c1)
    go_ret
    exact ⟨rfl, b1.out⟩
  obtain ⟨k, hnk⟩ : ∃ k : Nat, n = k := ⟨n.toNat, by omega⟩
  have hk : k ≤ 4294967295 := by omega
  have hdg := fun W => digits_any k W (by omega)
  rw [← hnk] at hdg
  have hdl := Dec.digs_len10 (n := k) (by omega)
  have q1 := need_says s hk
  rw [← hnk] at q1
  have q2 := need_zero s k
  have q3 := need_open s k
  have q4 := need_more s k
  obtain ⟨D, hD⟩ : ∃ D, D = Text.digs k := ⟨_, rfl⟩
  rw [← hD] at hdg hdl q1 q2 q3 q4
  have s3 : str s ++ { data := #[123] } ++ str D = str (s ++ 123 :: D) := by rw [show ({ data := #[123] } : ByteArray) = str [123] from rfl, str_append, str_append]; simp
  have s1 : str (s ++ 123 :: D) ++ { data := #[125] } = str (s ++ 123 :: D ++ [125]) := by rw [show ({ data := #[125] } : ByteArray) = str [125] from rfl, str_append]
  have s4 : str (s ++ 123 :: D) ++ { data := #[125, 120] } = str (s ++ 123 :: D ++ [125, 120]) := by rw [show ({ data := #[125, 120] } : ByteArray) = str [125, 120] from rfl, str_append]
  have s2 : str s ++ { data := #[123, 48] } ++ str D = str (s ++ 123 :: 48 :: D) := by rw [show ({ data := #[123, 48] } : ByteArray) = str [123, 48] from rfl, str_append, str_append]; simp
  have s5 : str (s ++ 123 :: 48 :: D) ++ { data := #[125] } = str (s ++ 123 :: 48 :: D ++ [125]) := by rw [show ({ data := #[125] } : ByteArray) = str [125] from rfl, str_append]
  have Q1 := hid q1
  have Q2 := hid q2
  have Q3 := hid q3
  have Q4 := hid q4
  clear q1 q2 q3 q4 hD hnk hk
  obtain ⟨L1, hL1⟩ : ∃ L, L = s ++ 123 :: D ++ [125] := ⟨_, rfl⟩
  obtain ⟨L2, hL2⟩ : ∃ L, L = s ++ 123 :: 48 :: D ++ [125] := ⟨_, rfl⟩
  obtain ⟨L3, hL3⟩ : ∃ L, L = s ++ 123 :: D := ⟨_, rfl⟩
  obtain ⟨L4, hL4⟩ : ∃ L, L = s ++ 123 :: D ++ [125, 120] := ⟨_, rfl⟩
  obtain ⟨L5, hL5⟩ : ∃ L, L = s ++ 123 :: 48 :: D := ⟨_, rfl⟩
  have l1 : L1.length ≤ 4294967296 := by rw [hL1]; simp; omega
  have l2 : L2.length ≤ 4294967296 := by rw [hL2]; simp; omega
  have l3 : L3.length ≤ 2147483660 := by rw [hL3]; simp; omega
  have l4 : L4.length ≤ 4294967296 := by rw [hL4]; simp; omega
  have l5 : L5.length ≤ 2147483660 := by rw [hL5]; simp; omega
  rw [← hL1] at s1 Q1
  rw [← hL2] at s5 Q2
  rw [← hL4] at s4 Q4
  rw [← hL3] at s1 s3 s4 Q3
  rw [← hL5] at s2 s5
  clear hL1 hL2 hL3 hL4 hL5
  have tok0 : Tk 0 := ⟨⟩
  go_enter Tryz.func4, Tryz.ntmps4
  go_wp2_with (first
    | (go_at_call 8; refine (shown_any w HG.out).mono ?_; rintro e w1 ⟨rfl, c1⟩; have b1 := hid c1; clear c1)
    | (go_at_call 14; refine (hdg _).mono ?_; rintro e w2 ⟨rfl, c2⟩; have b2 := hid (below_then b1.out c2); clear c2)
    | (go_at_call 15; have t_ : Tk 0 := ‹Tk 0›; refine (need_any L1 _ (HG.out.below b2.out).c l1).mono ?_; rw [Q1.out]; rintro e w3 ⟨rfl, c3⟩; have b3 := hid (below_then b2.out c3); clear c3; clear t_ tok0; have tok1 : Tk 1 := ⟨⟩)
    | (go_at_call 15; have t_ : Tk 1 := ‹Tk 1›; refine (need_any L2 _ (HG.out.below b3.out).c l2).mono ?_; rw [Q2.out]; rintro e w4 ⟨rfl, c4⟩; have b4 := hid (below_then b3.out c4); clear c4; clear t_ tok1; have tok2 : Tk 2 := ⟨⟩)
    | (go_at_call 15; have t_ : Tk 2 := ‹Tk 2›; refine (need_any L3 _ (HG.out.below b4.out).c (by omega)).mono ?_; rw [Q3.out]; rintro e w5 ⟨rfl, c5⟩; have b5 := hid (below_then b4.out c5); clear c5; clear t_ tok2; have tok3 : Tk 3 := ⟨⟩)
    | (go_at_call 15; have t_ : Tk 3 := ‹Tk 3›; refine (need_any L4 _ (HG.out.below b5.out).c l4).mono ?_; rw [Q4.out]; rintro e w6 ⟨rfl, c6⟩; have b6 := hid (below_then b5.out c6); clear c6; clear t_ tok3; have tok4 : Tk 4 := ⟨⟩))
  go_ret
  exact ⟨rfl, b6.out⟩
end Go.Proofs.YtfdmdmahddjjmaaGreatDoor
