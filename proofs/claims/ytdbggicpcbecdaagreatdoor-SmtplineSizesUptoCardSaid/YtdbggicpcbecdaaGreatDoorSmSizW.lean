/-
  SmtplineSizes walked.
-/
import Derived.Test.YtdbggicpcbecdaaGreatDoorSmSiz
import Derived.Test.YtdbggicpcbecdaaGreatDoorSmShown
namespace Go.Proofs.YtdbggicpcbecdaaGreatDoor
open Go.RowKit Own Sm
set_option linter.unusedVariables false
set_option linter.unusedSimpArgs false
set_option maxRecDepth 100000
attribute [local go_sem] str_toList

theorem small_snoc {y : List UInt8} {c : UInt8} (h : ∀ d ∈ y, 97 ≤ d.toNat ∧ d.toNat ≤ 122) (h1 : 97 ≤ c.toNat) (h2 : c.toNat ≤ 122) : ∀ d ∈ y ++ [c], 97 ≤ d.toNat ∧ d.toNat ≤ 122 := by
  intro d hd
  rcases List.mem_append.1 hd with h3 | h3
  · exact h d h3
  · have : d = c := by simpa using h3
    rw [this]; exact ⟨h1, h2⟩
theorem word_calls {y : List UInt8} (hne : y ≠ []) (hy : ∀ d ∈ y, 97 ≤ d.toNat ∧ d.toNat ≤ 122) (hl : y.length ≤ 1000) :
    (∀ V, GoodC V → Calls Tryz.prog 7 #[.string ({ data := #[77, 65, 73, 76, 32, 70, 82, 79, 77, 58, 60, 97, 64, 98, 62, 32] } ++ str y)] V fun e w' => ∃ A cc, e = .returned (.tuple #[.agg #[.string { data := #[] }, .string { data := #[] }, .slice A 0 cc, .int .i64 0], .int .i64 1]) ∧ Below V.heap.size V w') ∧
    (∀ V, GoodC V → Calls Tryz.prog 7 #[.string ({ data := #[82, 67, 80, 84, 32, 84, 79, 58, 60, 97, 64, 98, 62, 32] } ++ str y)] V fun e w' => ∃ A cc, e = .returned (.tuple #[.agg #[.string { data := #[] }, .string { data := #[] }, .slice A 0 cc, .int .i64 0], .int .i64 1]) ∧ Below V.heap.size V w') := by
  obtain ⟨h1, h2⟩ := parse_word hne hy
  refine ⟨fun V g => ?_, fun V g => ?_⟩
  · have h := smparse_any (mailT ++ y) V g (by simp [mailT]; omega)
    rw [h1, ← str_append] at h
    refine h.mono ?_
    rintro e w' ⟨A, cc, rfl, -, hb⟩
    exact ⟨A, cc, rfl, hb⟩
  · have h := smparse_any (rcptT ++ y) V g (by simp [rcptT]; omega)
    rw [h2, ← str_append] at h
    refine h.mono ?_
    rintro e w' ⟨A, cc, rfl, -, hb⟩
    exact ⟨A, cc, rfl, hb⟩

set_option maxHeartbeats 16000000 in
theorem sizes_walk (n : Int) (l : List UInt8) (w : World) (hG : GoodC w) (hl : l.length ≤ 1048576) :
    Calls Tryz.prog 5 #[.int .i64 n, .string (str l)] w fun e w' => e = .returned (.bool true) ∧ Below w.heap.size w w' := by
  have hlz := str_size l
  by_cases hn : 0 ≤ n ∧ n < 4294967296
  · obtain ⟨k, rfl⟩ : ∃ k : Nat, n = k := ⟨n.toNat, by omega⟩
    obtain ⟨hn0, hn1⟩ := hn
    have hk : k < 4294967296 := by omega
    have hdl := Text.digs_len 9 k (by omega)
    have hdz := str_size (Text.digs k)
    have hdi := fun V => digits_any k V (by omega)
    have hpa : ∀ V, GoodC V → Calls Tryz.prog 7 #[.string ({ data := #[77, 65, 73, 76, 32, 70, 82, 79, 77, 58, 60, 97, 64, 98, 62, 32, 83, 73, 90, 69, 61] } ++ str (Text.digs k))] V fun e w' => ∃ A cc, e = .returned (.tuple #[.agg #[.string { data := #[77, 65, 73, 76] }, .string { data := #[97, 64, 98] }, .slice A 0 cc, .int .i64 k], .int .i64 0]) ∧ Below V.heap.size V w' := by
      intro V g
      have h := smparse_any (mailT ++ (sizeT ++ Text.digs k)) V g (by simp [mailT, sizeT]; omega)
      rw [parse_size hk] at h
      have e : ({ data := #[77, 65, 73, 76, 32, 70, 82, 79, 77, 58, 60, 97, 64, 98, 62, 32, 83, 73, 90, 69, 61] } ++ str (Text.digs k) : ByteArray) = str (mailT ++ (sizeT ++ Text.digs k)) := by
        show str [77, 65, 73, 76, 32, 70, 82, 79, 77, 58, 60, 97, 64, 98, 62, 32, 83, 73, 90, 69, 61] ++ str _ = _
        rw [str_append]; rfl
      rw [e]
      refine h.mono ?_
      rintro e w' ⟨A, cc, rfl, -, hb⟩
      exact ⟨A, cc, rfl, hb⟩
    obtain ⟨dk, hdk⟩ : ∃ dk, dk = Text.digs k := ⟨_, rfl⟩
    rw [← hdk] at hdl hdz hdi hpa
    clear hdk
    have e9 : ((k : Int) != (k : Int)) = false := by simp
    go_enter Tryz.func5, Tryz.ntmps5
    go_wp2_with (first
      | (go_at_call 6; refine (shown_any w hG).mono ?_; rintro e w1 ⟨rfl, d1⟩; have B1 := hid d1; clear d1)
      | (go_at_call 13; refine (hdi _).mono ?_; rintro e w2 ⟨rfl, d2⟩; have B2 := hid (below_then B1.out d2); clear d2)
      | (go_at_call 7; refine (hpa _ (hG.below B2.out)).mono ?_; rintro e w3 ⟨A3, k3, rfl, d3⟩; have b3 := below_then B2.out d3; have B3 := hid (b3.alloc b3.size (.cells #[.string { data := #[77, 65, 73, 76] }, .string { data := #[97, 64, 98] }, .slice A3 0 k3, .int .i64 k] 25)); have kq := CmdIs.new w3 [77, 65, 73, 76] [97, 64, 98] (.slice A3 0 k3) k; have y1 : (w3.alloc (.cells #[.string { data := #[77, 65, 73, 76] }, .string { data := #[97, 64, 98] }, .slice A3 0 k3, .int .i64 k] 25)).cell? ⟨w3.heap.size, 1, none⟩ = some (.string { data := #[97, 64, 98] }) := kq.c1; have y3 : (w3.alloc (.cells #[.string { data := #[77, 65, 73, 76] }, .string { data := #[97, 64, 98] }, .slice A3 0 k3, .int .i64 k] 25)).cell? ⟨w3.heap.size, 3, none⟩ = some (.int .i64 k) := kq.c3; clear b3 d3 kq))
    obtain ⟨wz, hwz⟩ : ∃ wz, wz = (w3.alloc (.cells #[.string { data := #[77, 65, 73, 76] }, .string { data := #[97, 64, 98] }, .slice A3 0 k3, .int .i64 k] 25)) := ⟨_, rfl⟩
    rw [← hwz] at B3
    rw [← hwz]
    have BZ := hid B3.out
    clear hwz y1 y3 B3 e9 hdi hpa hdz hdl hn0 hn1 hk
    go_loop [8, 9] (fun v8 v9 => ∃ (i : Nat) (y : List UInt8), i ≤ l.length ∧ i ≤ 30 ∧ v8 = .string (str y) ∧ v9 = .int .i64 i ∧ y.length ≤ i ∧ (∀ c ∈ y, 97 ≤ c.toNat ∧ c.toNat ≤ 122)) (fun _ v9 => 30 - (intOf v9).toNat)
    case atStart => exact ⟨0, [], Nat.zero_le _, by decide, rfl, rfl, by decide, by simp⟩
    case round =>
      obtain ⟨i, y, hi, hi30, rfl, rfl, hyl, hyo⟩ := hrel
      have HYO := hid hyo
      clear hyo
      have hzy := str_size y
      by_cases hgo : i < l.length ∧ i < 30
      · obtain ⟨hil, hi3⟩ := hgo
        obtain ⟨c, hc⟩ : ∃ c, l[i]? = some c := ⟨_, List.getElem?_eq_getElem hil⟩
        have hix := str_ix hc
        have hone := str_one hc
        have hq1 : (i : Int) < (l.length : Int) := by omega
        have hq2 : (i : Int) < 30 := by omega
        have hz1 : (str [c]).size = 1 := str_size [c]
        have hap : str y ++ str [c] = str (y ++ [c]) := str_append _ _
        clear hc
        by_cases h97 : 97 ≤ c.toNat
        · have hc1 : (97 : Int) ≤ (c.toNat : Int) := by omega
          by_cases h122 : c.toNat ≤ 122
          · have hc2 : (c.toNat : Int) ≤ 122 := by omega
            have hd2 : decide ((c.toNat : Int) ≤ 122) = true := decide_eq_true hc2
            go_wp2_with fail
            go_round
            case rel => exact ⟨i + 1, y ++ [c], by omega, by omega, by first | rfl | rw [hap], by go_num, (by simp; omega), small_snoc HYO.out h97 h122⟩
            case measure => (simp [intOf]) <;> omega
          · have hd2 : decide ((c.toNat : Int) ≤ 122) = false := decide_eq_false (by omega)
            clear h122
            go_wp2_with fail
            go_round
            case rel => exact ⟨i + 1, y, by omega, by omega, rfl, by go_num, by omega, HYO.out⟩
            case measure => (simp [intOf]) <;> omega
        · have hd1 : decide ((97 : Int) ≤ (c.toNat : Int)) = false := decide_eq_false (by omega)
          clear h97
          go_wp2_with fail
          go_round
          case rel => exact ⟨i + 1, y, by omega, by omega, rfl, by go_num, by omega, HYO.out⟩
          case measure => (simp [intOf]) <;> omega
      · have hex : (l.length ≤ i) ∨ (i < l.length ∧ 30 ≤ i) := by omega
        clear hgo
        rcases hex with hex | ⟨hex, hex2⟩
        all_goals
          by_cases hy : y = []
          · have e1 : (y == []) = true := by simpa using hy
            have e2 : y.isEmpty = true := by simpa using hy
            clear hy
            go_wp2_with fail
            go_ret
            exact ⟨by first | rfl | simp, BZ.out⟩
          · have e1 : (y == []) = false := by simpa using hy
            have e2 : y.isEmpty = false := by simpa using hy
            have hm := word_calls hy HYO.out (by omega)
            obtain ⟨hm1, hm2⟩ := hm
            clear hy
            have tok0 : Tk 0 := ⟨⟩
            go_wp2_with (first
              | (go_at_call 7; have t_ : Tk 0 := ‹Tk 0›; refine (hm1 _ (hG.below BZ.out)).mono ?_; rintro e w5 ⟨A5, k5, rfl, d5⟩; have b5 := below_then BZ.out d5; have B5 := hid (b5.alloc b5.size (.cells #[.string { data := #[] }, .string { data := #[] }, .slice A5 0 k5, .int .i64 0] 25)); clear b5 d5; clear t_; clear tok0; have tok1 : Tk 1 := ⟨⟩)
              | (go_at_call 7; have t_ : Tk 1 := ‹Tk 1›; refine (hm2 _ (hG.below B5.out)).mono ?_; rintro e w6 ⟨A6, k6, rfl, d6⟩; have b6 := below_then B5.out d6; have B6 := hid (b6.alloc b6.size (.cells #[.string { data := #[] }, .string { data := #[] }, .slice A6 0 k6, .int .i64 0] 25)); clear b6 d6; clear t_; clear tok1; have tok2 : Tk 2 := ⟨⟩))
            go_ret
            exact ⟨by first | rfl | simp, B6.out⟩
  · have hn2 : n < 0 ∨ (0 ≤ n ∧ 4294967296 ≤ n) := by omega
    clear hn
    rcases hn2 with hn2 | ⟨hn2, hn3⟩
    all_goals
      go_enter Tryz.func5, Tryz.ntmps5
      go_wp2_with (go_at_call 6; refine (shown_any w hG).mono ?_; rintro e wz ⟨rfl, d1⟩; have BZ := hid d1; clear d1)
      go_loop [8, 9] (fun v8 v9 => ∃ (i : Nat) (y : List UInt8), i ≤ l.length ∧ i ≤ 30 ∧ v8 = .string (str y) ∧ v9 = .int .i64 i ∧ y.length ≤ i ∧ (∀ c ∈ y, 97 ≤ c.toNat ∧ c.toNat ≤ 122)) (fun _ v9 => 30 - (intOf v9).toNat)
      case atStart => exact ⟨0, [], Nat.zero_le _, by decide, rfl, rfl, by decide, by simp⟩
      case round =>
        obtain ⟨i, y, hi, hi30, rfl, rfl, hyl, hyo⟩ := hrel
        have HYO := hid hyo
        clear hyo
        have hzy := str_size y
        by_cases hgo : i < l.length ∧ i < 30
        · obtain ⟨hil, hi3⟩ := hgo
          obtain ⟨c, hc⟩ : ∃ c, l[i]? = some c := ⟨_, List.getElem?_eq_getElem hil⟩
          have hix := str_ix hc
          have hone := str_one hc
          have hq1 : (i : Int) < (l.length : Int) := by omega
          have hq2 : (i : Int) < 30 := by omega
          have hz1 : (str [c]).size = 1 := str_size [c]
          have hap : str y ++ str [c] = str (y ++ [c]) := str_append _ _
          clear hc
          by_cases h97 : 97 ≤ c.toNat
          · have hc1 : (97 : Int) ≤ (c.toNat : Int) := by omega
            by_cases h122 : c.toNat ≤ 122
            · have hc2 : (c.toNat : Int) ≤ 122 := by omega
              have hd2 : decide ((c.toNat : Int) ≤ 122) = true := decide_eq_true hc2
              go_wp2_with fail
              go_round
              case rel => exact ⟨i + 1, y ++ [c], by omega, by omega, by first | rfl | rw [hap], by go_num, (by simp; omega), small_snoc HYO.out h97 h122⟩
              case measure => (simp [intOf]) <;> omega
            · have hd2 : decide ((c.toNat : Int) ≤ 122) = false := decide_eq_false (by omega)
              clear h122
              go_wp2_with fail
              go_round
              case rel => exact ⟨i + 1, y, by omega, by omega, rfl, by go_num, by omega, HYO.out⟩
              case measure => (simp [intOf]) <;> omega
          · have hd1 : decide ((97 : Int) ≤ (c.toNat : Int)) = false := decide_eq_false (by omega)
            clear h97
            go_wp2_with fail
            go_round
            case rel => exact ⟨i + 1, y, by omega, by omega, rfl, by go_num, by omega, HYO.out⟩
            case measure => (simp [intOf]) <;> omega
        · have hex : (l.length ≤ i) ∨ (i < l.length ∧ 30 ≤ i) := by omega
          clear hgo
          rcases hex with hex | ⟨hex, hex2⟩
          all_goals
            by_cases hy : y = []
            · have e1 : (y == []) = true := by simpa using hy
              have e2 : y.isEmpty = true := by simpa using hy
              clear hy
              go_wp2_with fail
              go_ret
              exact ⟨by first | rfl | simp, BZ.out⟩
            · have e1 : (y == []) = false := by simpa using hy
              have e2 : y.isEmpty = false := by simpa using hy
              have hm := word_calls hy HYO.out (by omega)
              obtain ⟨hm1, hm2⟩ := hm
              clear hy
              have tok0 : Tk 0 := ⟨⟩
              go_wp2_with (first
                | (go_at_call 7; have t_ : Tk 0 := ‹Tk 0›; refine (hm1 _ (hG.below BZ.out)).mono ?_; rintro e w5 ⟨A5, k5, rfl, d5⟩; have b5 := below_then BZ.out d5; have B5 := hid (b5.alloc b5.size (.cells #[.string { data := #[] }, .string { data := #[] }, .slice A5 0 k5, .int .i64 0] 25)); clear b5 d5; clear t_; clear tok0; have tok1 : Tk 1 := ⟨⟩)
                | (go_at_call 7; have t_ : Tk 1 := ‹Tk 1›; refine (hm2 _ (hG.below B5.out)).mono ?_; rintro e w6 ⟨A6, k6, rfl, d6⟩; have b6 := below_then B5.out d6; have B6 := hid (b6.alloc b6.size (.cells #[.string { data := #[] }, .string { data := #[] }, .slice A6 0 k6, .int .i64 0] 25)); clear b6 d6; clear t_; clear tok1; have tok2 : Tk 2 := ⟨⟩))
              go_ret
              exact ⟨by first | rfl | simp, B6.out⟩

end Go.Proofs.YtdbggicpcbecdaaGreatDoor
