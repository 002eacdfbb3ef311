/-
  CodecNumbers: the plain law, and the walk.
-/
import Derived.Test.YtnphpinnkmndfaaDoorShown
namespace Go.Proofs.YtnphpinnkmndfaaDoor
open Go.RowKit Own Dec
set_option linter.unusedVariables false
set_option linter.unusedSimpArgs false
set_option maxRecDepth 100000

namespace Dec
theorem digs_len10 {n : Nat} (h : n ≤ 9999999999) : (Text.digs n).length ≤ 10 := Text.digs_len 9 n (by have : (10 : Nat) ^ (9 + 1) = 10000000000 := rfl; omega)
theorem numR_self {n : Nat} (h : n ≤ 9999999999) (most : Int) : numR (Text.digs n) most = if most < n then (0, false) else ((n : Int), true) := by
  have h1 := digs_len10 h
  have h2 := Text.digs_len_pos n
  unfold numR
  rw [if_neg (by omega), if_neg (by simpa using digs_dig n), digs_num]
  by_cases hm : most < (n : Int)
  · rw [if_pos (.inr hm), if_pos hm]
  · rw [if_neg (by rintro (h | h); exact h rfl; exact hm h), if_neg hm]
theorem numR_zero (n : Nat) (most : Int) : numR (48 :: Text.digs n) most = (0, false) := by
  unfold numR
  by_cases hl : (48 :: Text.digs n).length < 1 ∨ 10 < (48 :: Text.digs n).length
  · rw [if_pos hl]
  rw [if_neg hl]
  have hd : ∀ c ∈ (48 :: Text.digs n : List UInt8), isDig c := by
    intro c hc
    rcases List.mem_cons.1 hc with rfl | h
    · unfold isDig; decide
    · exact digs_dig n c h
  rw [if_neg (by simpa using hd), if_pos]
  left
  have hn : numF 0 (48 :: Text.digs n) = n := by
    rw [numF_cons]
    show numF (10 * 0 + (48 - 48)) (Text.digs n) = n
    exact digs_num n
  rw [hn]
  intro e
  have := congrArg List.length e
  simp at this
theorem numR_blank (n : Nat) (most : Int) : numR (Text.digs n ++ [32]) most = (0, false) := by
  unfold numR
  by_cases hl : (Text.digs n ++ [32]).length < 1 ∨ 10 < (Text.digs n ++ [32]).length
  · rw [if_pos hl]
  rw [if_neg hl, if_pos]
  intro h
  have := h 32 (by simp)
  unfold isDig at this
  exact absurd this.1 (by decide)
end Dec

attribute [local go_sem] str_toList str_size

set_option maxHeartbeats 4000000 in
theorem numbers_walk (n most : Int) (w : World) (hG : GoodC w) :
    Calls Tryd.prog 9 #[.int .i64 n, .int .i64 most] w fun e w' => e = .returned (.bool true) ∧ Below w.heap.size w w' := by
  by_cases h0 : n < 0
  · go_enter Tryd.func9, Tryd.ntmps9
    go_wp2_with ((go_at_call 10; refine (shown_any w hG).mono ?_; rintro e w1 ⟨rfl, c1⟩; have b1 := hid c1; clear c1))
    go_ret
    exact ⟨rfl, b1.out⟩
  by_cases h9 : 9999999999 < n
  · have h0' : 0 ≤ n := by omega
    clear h0
    go_enter Tryd.func9, Tryd.ntmps9
    go_wp2_with ((go_at_call 10; refine (shown_any w hG).mono ?_; rintro e w1 ⟨rfl, c1⟩; have b1 := hid c1; clear c1))
    go_ret
    exact ⟨rfl, b1.out⟩
  obtain ⟨k, rfl⟩ : ∃ k : Nat, n = k := ⟨n.toNat, by omega⟩
  have hk : k ≤ 9999999999 := by omega
  have hdg := fun W => digits_any k W (by omega)
  have hn1 := fun W g => number_any (Text.digs k) most W g
  have hn2 := fun W g => number_any (48 :: Text.digs k) most W g
  have hn3 := fun W g => number_any (Text.digs k ++ [32]) most W g
  rw [numR_self hk] at hn1
  rw [numR_zero] at hn2
  rw [numR_blank] at hn3
  have hap1 : ({ data := #[48] } : ByteArray) ++ str (Text.digs k) = str (48 :: Text.digs k) := str_append [48] (Text.digs k)
  have hap2 : str (Text.digs k) ++ ({ data := #[32] } : ByteArray) = str (Text.digs k ++ [32]) := str_append (Text.digs k) [32]
  have hl := digs_len10 hk
  have hl1 : (str (Text.digs k)).size ≤ 10 := by rw [str_size]; exact hl
  generalize Text.digs k = D at *
  generalize hX : str (48 :: D) = X at *
  generalize hY : str (D ++ [32]) = Y at *
  clear h0 hX hY
  have tok0 : Tok 0 := ⟨⟩
  by_cases hm : most < (k : Int)
  · rw [if_pos hm] at hn1
    have e1 : decide ((k : Int) ≤ most) = false := decide_eq_false (by omega)
    go_enter Tryd.func9, Tryd.ntmps9
    go_wp2_with (first
      | (go_at_call 10; refine (shown_any w hG).mono ?_; rintro e w1 ⟨rfl, c1⟩; have b1 := hid c1; clear c1)
      | (go_at_call 27; refine (hdg _).mono ?_; rintro e w2 ⟨rfl, c2⟩; have b2 := hid (below_then b1.out c2); clear c2)
      | (go_at_call 19; have t_ : Tok 0 := ‹Tok 0›; refine (hn1 _ (hG.below b2.out)).mono ?_; rintro e w3 ⟨rfl, c3⟩; have b3 := hid (below_then b2.out c3); clear c3; clear t_; clear tok0; have tok1 : Tok 1 := ⟨⟩)
      | (go_at_call 19; have t_ : Tok 1 := ‹Tok 1›; refine (hn2 _ (hG.below b3.out)).mono ?_; rintro e w4 ⟨rfl, c4⟩; have b4 := hid (below_then b3.out c4); clear c4; clear t_; clear tok1; have tok2 : Tok 2 := ⟨⟩)
      | (go_at_call 19; have t_ : Tok 2 := ‹Tok 2›; refine (hn3 _ (hG.below b4.out)).mono ?_; rintro e w5 ⟨rfl, c5⟩; have b5 := hid (below_then b4.out c5); clear c5; clear t_; clear tok2; have tok3 : Tok 3 := ⟨⟩))
    go_ret
    exact ⟨rfl, b5.out⟩
  · rw [if_neg hm] at hn1
    have hm2 : (k : Int) ≤ most := by omega
    go_enter Tryd.func9, Tryd.ntmps9
    go_wp2_with (first
      | (go_at_call 10; refine (shown_any w hG).mono ?_; rintro e w1 ⟨rfl, c1⟩; have b1 := hid c1; clear c1)
      | (go_at_call 27; refine (hdg _).mono ?_; rintro e w2 ⟨rfl, c2⟩; have b2 := hid (below_then b1.out c2); clear c2)
      | (go_at_call 19; have t_ : Tok 0 := ‹Tok 0›; refine (hn1 _ (hG.below b2.out)).mono ?_; rintro e w3 ⟨rfl, c3⟩; have b3 := hid (below_then b2.out c3); clear c3; clear t_; clear tok0; have tok1 : Tok 1 := ⟨⟩)
      | (go_at_call 19; have t_ : Tok 1 := ‹Tok 1›; refine (hn2 _ (hG.below b3.out)).mono ?_; rintro e w4 ⟨rfl, c4⟩; have b4 := hid (below_then b3.out c4); clear c4; clear t_; clear tok1; have tok2 : Tok 2 := ⟨⟩)
      | (go_at_call 19; have t_ : Tok 2 := ‹Tok 2›; refine (hn3 _ (hG.below b4.out)).mono ?_; rintro e w5 ⟨rfl, c5⟩; have b5 := hid (below_then b4.out c5); clear c5; clear t_; clear tok2; have tok3 : Tok 3 := ⟨⟩))
    go_ret
    exact ⟨rfl, b5.out⟩

end Go.Proofs.YtnphpinnkmndfaaDoor
