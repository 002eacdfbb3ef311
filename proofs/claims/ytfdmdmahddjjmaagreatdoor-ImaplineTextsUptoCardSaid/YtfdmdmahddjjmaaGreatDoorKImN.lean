/-
  What a line's end asks for: Need.
-/
import Derived.Test.YtfdmdmahddjjmaaGreatDoorKImA
import Derived.Test.YtfdmdmahddjjmaaGreatDoorPkAd
namespace Go.Proofs.YtfdmdmahddjjmaaGreatDoor
open Go.RowKit Own Im
set_option linter.unusedVariables false
set_option linter.unusedSimpArgs false
set_option maxRecDepth 100000
attribute [local go_sem] str_toList str_size

theorem suf_nil : Lib.hasSuffix [] [125] = false := rfl
theorem suf_snoc (t : Bt) (c : UInt8) : Lib.hasSuffix (t ++ [c]) [125] = decide (c = 125) := by
  unfold Lib.hasSuffix List.isSuffixOf
  rw [List.reverse_append]
  simp [List.isPrefixOf]
  by_cases h : c = 125
  · subst h; simp
  · rw [decide_eq_false h]; simpa using fun k => h k.symm
theorem last_split (l : Bt) : (123 ∉ l ∧ Lib.lastIndexByte (str l) 123 = -1) ∨ ∃ x y, l = x ++ 123 :: y ∧ 123 ∉ y ∧ Lib.lastIndexByte (str l) 123 = (x.length : Int) := by
  have hg : ∀ j (hj : j < l.length), (str l).data[j]! = l[j] := by
    intro j hj
    show (l.toArray)[j]! = l[j]
    rw [getElem!_pos l.toArray j (by simpa using hj)]
    simp
  rcases Lib.lastIndexByte_spec (str l) 123 with ⟨h1, h2⟩ | ⟨i, h1, h2, h3, h4⟩
  · left
    refine ⟨?_, h1⟩
    intro hm
    obtain ⟨j, hj, he⟩ := List.getElem_of_mem hm
    have := h2 j (by rw [str_size]; exact hj)
    rw [hg j hj, he] at this
    exact this rfl
  · right
    rw [str_size] at h1 h4
    have e0 : l[i] = 123 := by
      rw [hg i h1] at h3
      have : l[i].toNat = 123 := by omega
      exact UInt8.toNat_inj.1 this
    have e1 : l = l.take i ++ 123 :: l.drop (i + 1) := by
      conv => lhs; rw [← List.take_append_drop i l, List.drop_eq_getElem_cons h1, e0]
    refine ⟨l.take i, l.drop (i + 1), e1, ?_, ?_⟩
    · intro hm
      obtain ⟨j, hj, he⟩ := List.getElem_of_mem hm
      rw [List.length_drop] at hj
      have := h4 (i + 1 + j) (by omega) (by omega)
      rw [hg _ (by omega)] at this
      rw [List.getElem_drop] at he
      rw [he] at this
      exact this rfl
    · rw [h2, List.length_take, Nat.min_eq_left (Nat.le_of_lt h1)]
theorem back_run (x y : Bt) (h : 123 ∉ y) : ((x ++ 123 :: y).reverse.takeWhile (fun c => c != 123)).reverse = y := by
  rw [List.reverse_append, List.reverse_cons, List.append_assoc]
  have hy : ∀ c ∈ y.reverse, (c != 123) = true := by
    intro c hc
    rw [bne_iff_ne]
    rintro rfl
    exact h (List.mem_reverse.1 hc)
  rw [List.takeWhile_append_of_pos hy]
  simp
theorem needS_at (s x y : Bt) (hs : s = x ++ 123 :: y ++ [125]) (h : 123 ∉ y) : needS s = Dec.numR y most := by
  subst hs
  unfold needS
  have e1 : (x ++ 123 :: y ++ [125]).getLast? = some 125 := List.getLast?_concat ..
  have e2 : (x ++ 123 :: y ++ [125]).dropLast = x ++ 123 :: y := List.dropLast_concat ..
  rw [if_pos e1, e2, if_pos (by simp), back_run x y h]
theorem needS_none (s t : Bt) (c : UInt8) (hs : s = t ++ [c]) (h : c ≠ 125 ∨ 123 ∉ t) : needS s = (0, false) := by
  subst hs
  unfold needS
  have e1 : (t ++ [c]).getLast? = some c := by simp
  have e2 : (t ++ [c]).dropLast = t := by simp
  rw [e1, e2]
  rcases h with h | h
  · rw [if_neg (by simpa using h)]
  · rw [if_neg h]
    simp

set_option maxHeartbeats 1000000 in
theorem need_any (s : Bt) (w : World) (hG : GoodC w) (hl : s.length ≤ 4294967296) :
    Calls Tryz.prog 15 #[.string (str s)] w fun e w' => e = .returned (.tuple #[.int .i64 (needS s).1, .bool (needS s).2]) ∧ Below w.heap.size w w' := by
  have hcs : ∀ W : World, Calls Tryz.prog 29 #[.string (str s), .string (str [125])] W fun e w' => e = .returned (.tuple #[.string (str (Lib.trimSuffix s [125])), .bool (Lib.hasSuffix s [125])]) ∧ w' = W := fun W => Tryz.strings_CutSuffix (str s) (str [125]) W (by rw [str_size]; omega)
  rcases List.eq_nil_or_concat s with rfl | ⟨t, c, rfl⟩
  · have hli := fun W => Tryz.strings_LastIndexByte (str []) 123 (by rw [str_size]; decide) W
    rw [show Lib.lastIndexByte (str []) 123 = -1 by rfl] at hli
    rw [show Lib.trimSuffix [] [125] = [] by rfl, suf_nil] at hcs
    have e0 : needS [] = (0, false) := rfl
    rw [e0]
    go_enter Tryz.func15, Tryz.ntmps15
    go_wp2_with (first
      | (go_at_call 29; refine (hcs _).mono ?_; rintro e w1 ⟨rfl, rfl⟩)
      | (go_at_call 30; refine (hli _).mono ?_; rintro e w2 ⟨rfl, rfl⟩))
    exact bodyPost_ret (v := .tuple #[.int .i64 0, .bool false]) (by simp [results, Tryz.results15, go_sem]) rfl ⟨rfl, Below.refl _ _⟩
  · rw [List.concat_eq_append] at *
    rw [suf_snoc] at hcs
    by_cases hc : c = 125
    · subst hc
      have e1 : Lib.trimSuffix (t ++ [125]) [125] = t := by
        unfold Lib.trimSuffix
        rw [suf_snoc]
        simp
      rw [e1, decide_eq_true rfl] at hcs
      have hli := fun W => Tryz.strings_LastIndexByte (str t) 123 (by rw [str_size]; simp at hl; omega) W
      rcases last_split t with ⟨h1, h2⟩ | ⟨x, y, rfl, h1, h2⟩
      · rw [h2] at hli
        rw [needS_none _ t 125 rfl (.inr h1)]
        clear h1 h2
        go_enter Tryz.func15, Tryz.ntmps15
        go_wp2_with (first
          | (go_at_call 29; refine (hcs _).mono ?_; rintro e w1 ⟨rfl, rfl⟩)
          | (go_at_call 30; refine (hli _).mono ?_; rintro e w2 ⟨rfl, rfl⟩))
        exact bodyPost_ret (v := .tuple #[.int .i64 0, .bool false]) (by simp [results, Tryz.results15, go_sem]) rfl ⟨rfl, Below.refl _ _⟩
      · rw [h2] at hli
        rw [needS_at _ x y rfl h1]
        have hnu := fun W hW => number_any y most W hW
        obtain ⟨n, ok, hq⟩ : ∃ n ok, Dec.numR y most = (n, ok) := ⟨_, _, rfl⟩
        rw [hq] at hnu ⊢
        obtain ⟨T, hT⟩ : ∃ T, T = x ++ 123 :: y := ⟨_, rfl⟩
        have hlen : T.length = x.length + 1 + y.length := by rw [hT]; simp; omega
        have hsz := str_size T
        rw [hlen] at hsz
        have hx : x.length + 1 + y.length ≤ 4294967296 := by simp at hl; omega
        have ex : (str T).extract (x.length + 1) (x.length + 1 + y.length) = str y := by
          rw [str_from T (x.length + 1) (x.length + 1 + y.length) hlen.symm]
          congr 1
          rw [hT, show x ++ 123 :: y = (x ++ [123]) ++ y by simp, List.drop_left' (by simp)]
        rw [← hT] at hcs hli ⊢
        clear hq h1 h2 e1 hl hT
        obtain ⟨k, hk⟩ : ∃ k, k = x.length := ⟨_, rfl⟩
        rw [← hk] at *
        clear hk
        go_enter Tryz.func15, Tryz.ntmps15
        go_wp2_with (first
          | (go_at_call 29; refine (hcs _).mono ?_; rintro e w1 ⟨rfl, rfl⟩)
          | (go_at_call 30; refine (hli _).mono ?_; rintro e w2 ⟨rfl, rfl⟩)
          | (go_at_call 31; first | rw [ex] | skip; refine (hnu _ hG).mono ?_; rintro e w3 ⟨rfl, b3⟩; have B3 := hid b3; clear b3))
        exact bodyPost_ret (v := .tuple #[.int .i64 n, .bool ok]) (by simp [results, Tryz.results15, go_sem]) rfl ⟨rfl, B3.out⟩
    · rw [needS_none _ t c rfl (.inl hc)]
      rw [decide_eq_false hc] at hcs
      have hli : ∀ W, ∃ k : Int, Calls Tryz.prog 30 #[.string (str (Lib.trimSuffix (t ++ [c]) [125])), .int .u8 123] W fun e w' => e = .returned (.int .i64 k) ∧ w' = W := fun W => ⟨_, Tryz.strings_LastIndexByte _ 123 (by
        unfold Lib.trimSuffix
        rw [suf_snoc, decide_eq_false hc, if_neg (by simp)]
        have := str_size (t ++ [c])
        show (str (t ++ [c])).size < _
        omega) W⟩
      go_enter Tryz.func15, Tryz.ntmps15
      go_wp2_with (first
        | (go_at_call 29; refine (hcs _).mono ?_; rintro e w1 ⟨rfl, rfl⟩)
        | (go_at_call 30; obtain ⟨k, hk⟩ := hli _; refine hk.mono ?_; rintro e w2 ⟨rfl, rfl⟩))
      exact bodyPost_ret (v := .tuple #[.int .i64 0, .bool false]) (by simp [results, Tryz.results15, go_sem]) rfl ⟨rfl, Below.refl _ _⟩
end Go.Proofs.YtfdmdmahddjjmaaGreatDoor
