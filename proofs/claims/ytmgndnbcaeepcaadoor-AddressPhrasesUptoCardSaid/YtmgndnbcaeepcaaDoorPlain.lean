/-
  A plain word; a quoted one.
-/
import Derived.Test.YtmgndnbcaeepcaaDoorRdr
namespace Go.Proofs.YtmgndnbcaeepcaaDoor
open Go.RowKit Own Ad
set_option linter.unusedVariables false
set_option linter.unusedSimpArgs false
set_option maxRecDepth 100000
attribute [local go_sem] str_toList

theorem str_cut (l : List UInt8) (i j : Nat) : (str l).extract i j = str ((l.take j).drop i) := by
  apply ByteArray.ext
  apply Array.ext'
  simp [str, ByteArray.data_extract, Array.toList_extract, List.extract_eq_take_drop, List.drop_take]
theorem str_from (l : List UInt8) (i n : Nat) (hn : n = l.length) : (str l).extract i n = str (l.drop i) := by
  rw [str_cut, hn, List.take_length]
theorem str_upto (l : List UInt8) (n : Nat) : (str l).extract 0 n = str (l.take n) := by rw [str_cut, List.drop_zero]
theorem str_one {l : List UInt8} {i : Nat} {c : UInt8} (h : l[i]? = some c) : (str l).extract i (i + 1) = str [c] := by
  rw [str_cut, List.drop_take, drop_at h, Nat.add_sub_cancel_left]
  rfl
theorem atom_one (c : UInt8) : atomP [c] = isAt c := by simp [atomP]
theorem u8_eq (c : UInt8) (n : Nat) (hn : n < 256) : (((c.toNat : Int) == (n : Int)) = true ↔ c = UInt8.ofNat n) := by
  rw [beq_iff_eq]
  constructor
  · intro h
    apply UInt8.toNat_inj.1
    rw [UInt8.toNat_ofNat', Nat.mod_eq_of_lt (by simpa using hn)]
    omega
  · rintro rfl
    rw [UInt8.toNat_ofNat', Nat.mod_eq_of_lt (by simpa using hn)]

set_option maxHeartbeats 2000000 in
theorem plain_any (b : Nat) (s : List UInt8) (w : World) (h : RdAt w b s) (hs : s.length ≤ 9223372036854775800) :
    Calls Tryd.prog 43 #[.pointer (some ⟨b, 0, none⟩)] w fun e w' => e = .returned (.tuple #[.string (str (s.takeWhile isPl)), .bool (decide (0 < (s.takeWhile isPl).length))]) ∧ RdAt w' b (s.dropWhile isPl) ∧ Only b w w' := by
  have h0 := h.c
  have f0 := h.free
  have H := hid h
  have hsz := str_size s
  obtain ⟨T, hT⟩ : ∃ T, T = s.takeWhile isPl := ⟨_, rfl⟩
  obtain ⟨D, hD⟩ : ∃ D, D = s.dropWhile isPl := ⟨_, rfl⟩
  rw [← hT, ← hD]
  have HT := hid hT
  have HD := hid hD
  clear h hT hD
  go_enter Tryd.func43, Tryd.ntmps43
  go_wp2_with fail
  go_loop [4] (fun v4 => ∃ i : Nat, i ≤ s.length ∧ v4 = .int .i64 i ∧ T = s.take i ++ (s.drop i).takeWhile isPl ∧ D = (s.drop i).dropWhile isPl) (fun v4 => s.length - (intOf v4).toNat)
  case atStart => exact ⟨0, Nat.zero_le _, rfl, by simpa using HT.out, by simpa using HD.out⟩
  case round =>
    obtain ⟨i, hi, rfl, ht, hd⟩ := hrel
    have hfin : ∀ m, m = i → T = s.take i → D = s.drop i → True := fun _ _ _ _ => trivial
    by_cases hil : i < s.length
    · obtain ⟨c, hc⟩ : ∃ c, s[i]? = some c := ⟨_, List.getElem?_eq_getElem hil⟩
      have hix := str_ix hc
      have hex := str_one hc
      have hat := fun W => atom_any [c] W (by simp)
      rw [atom_one] at hat
      have htk : s.take (i + 1) = s.take i ++ [c] := by
        obtain ⟨h1, h2⟩ := List.getElem?_eq_some_iff.1 hc
        rw [List.take_succ_eq_append_getElem h1, h2]
      rw [drop_at hc] at ht hd
      cases hp : isPl c with
      | true =>
        rw [List.takeWhile_cons_of_pos hp] at ht
        rw [List.dropWhile_cons_of_pos hp] at hd
        have ht2 : T = s.take (i + 1) ++ (s.drop (i + 1)).takeWhile isPl := by rw [ht, htk, List.append_assoc]; rfl
        have HT2 := hid ht2
        have HD2 := hid hd
        clear ht ht2 hd htk hc
        cases ha : isAt c with
        | true =>
          rw [ha] at hat
          clear ha hp
          go_wp2_with (go_at_call 32; refine (hat _).mono ?_; rintro e w1 ⟨rfl, rfl⟩)
          go_round
          case rel => exact ⟨i + 1, by omega, by go_num, HT2.out, HD2.out⟩
          case measure => simp [intOf]; omega
        | false =>
          rw [ha] at hat
          have h46 : c = 46 := by unfold isPl at hp; rw [ha] at hp; simpa using hp
          have e1 : ((c.toNat : Int) == 46) = true := by rw [h46]; rfl
          clear ha hp h46
          go_wp2_with (go_at_call 32; refine (hat _).mono ?_; rintro e w1 ⟨rfl, rfl⟩)
          go_round
          case rel => exact ⟨i + 1, by omega, by go_num, HT2.out, HD2.out⟩
          case measure => simp [intOf]; omega
      | false =>
        have hp' : ¬ isPl c = true := by rw [hp]; simp
        rw [List.takeWhile_cons_of_neg hp', List.append_nil] at ht
        rw [List.dropWhile_cons_of_neg hp', ← drop_at hc] at hd
        have ha : isAt c = false := by unfold isPl at hp; cases hq : isAt c with
          | true => rw [hq] at hp; simp at hp
          | false => rfl
        have e1 : ((c.toNat : Int) == 46) = false := by
          rw [Bool.eq_false_iff]
          intro h
          have := (u8_eq c 46 (by decide)).1 h
          unfold isPl at hp
          rw [this] at hp
          exact absurd hp (by decide)
        rw [ha] at hat
        have x1 := str_upto s i
        have x2 := str_from s i s.length rfl
        rw [← ht] at x1
        rw [← hd] at x2
        have hTl : T.length = i := by rw [ht]; simp; omega
        have HTL := hid hTl
        have hgt : decide (0 < T.length) = decide ((0 : Int) < i) := decide_eq_decide.2 (by omega)
        have HGT := hid hgt
        clear ha hp hp' ht hd hc htk hTl hgt
        go_wp2_with (go_at_call 32; refine (hat _).mono ?_; rintro e w1 ⟨rfl, rfl⟩)
        refine bodyPost_ret (v := .tuple #[.string (str T), .bool (decide ((0 : Int) < i))]) (by simp [results, Tryd.results43, go_sem]) rfl ⟨by rw [HGT.out], H.out.set _, Only.set _ _ _ _⟩
    · obtain rfl : i = s.length := by omega
      rw [List.drop_length] at ht hd
      have ht2 : T = s := by rw [ht, List.take_length]; simp
      have hd2 : D = [] := by rw [hd]; rfl
      have x1 : (str s).extract 0 s.length = str T := by rw [str_upto, List.take_length, ht2]
      have HD2 := hid hd2
      have hgt : decide (0 < T.length) = decide ((0 : Int) < s.length) := by rw [ht2]; exact decide_eq_decide.2 (by omega)
      have HGT := hid hgt
      clear ht hd ht2 hd2 hgt hil
      go_wp2_with fail
      refine bodyPost_ret (v := .tuple #[.string (str T), .bool (decide ((0 : Int) < s.length))]) (by simp [results, Tryd.results43, go_sem, x1]) rfl ⟨by rw [HGT.out], by rw [HD2.out]; exact H.out.set [], Only.set _ _ _ _⟩

end Go.Proofs.YtmgndnbcaeepcaaDoor
