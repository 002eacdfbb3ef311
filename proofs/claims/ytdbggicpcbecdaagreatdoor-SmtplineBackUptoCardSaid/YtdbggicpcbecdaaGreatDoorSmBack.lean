/-
  SmtplineBack walked.
-/
import Derived.Test.YtdbggicpcbecdaaGreatDoorSmShown
import Derived.Test.YtdbggicpcbecdaaGreatDoorREnc
namespace Go.Proofs.YtdbggicpcbecdaaGreatDoor
open Go.RowKit Own Sm
set_option linter.unusedVariables false
set_option linter.unusedSimpArgs false
set_option maxRecDepth 100000
attribute [local go_sem] str_toList

theorem Enc.enc_len : ∀ (n : Nat) (b : List UInt8), b.length ≤ n → (Enc.enc b).length ≤ 2 * b.length + 2
  | n, [], _ => by rw [Enc.enc_nil]; simp
  | n, [a], _ => by rw [Enc.enc_one]; simp
  | n, [a, b], _ => by rw [Enc.enc_two]; simp
  | 0, a :: b :: c :: r, h => by simp at h
  | n + 1, a :: b :: c :: r, h => by
    have := Enc.enc_len n r (by simp at h; omega)
    rw [Enc.enc_three]
    simp at this ⊢
    omega
theorem plain_back {x u p : Bt} (hx : (0 : UInt8) ∉ x) (hu : (0 : UInt8) ∉ u) (hp : (0 : UInt8) ∉ p) : plainS (Enc.enc (x ++ 0 :: (u ++ 0 :: p))) = (u, p, true) := by
  rw [plainS_ok (Enc.decV_ok rfl)]
  have : plainR (x ++ 0 :: (u ++ 0 :: p)) = some (u, p) := by
    unfold plainR
    rw [Spl.splitL_at _ hx, Spl.splitL_at _ hu, Spl.splitL_none hp]
  rw [this]
theorem src_bytes (w : World) (b : List UInt8) : Src (Lib.bytesWorld w 5 (str b)) (some ⟨w.heap.size, 0, none⟩) (bv b) ∧ Below w.heap.size w (Lib.bytesWorld w 5 (str b)) := by
  have hb1 := Lib.bytesWorld_at_new w 5 (str b)
  refine ⟨⟨(fun h => by cases h), fun p hp j u hu => ?_⟩, ⟨rfl, rfl, rfl, by rw [Lib.bytesWorld_size]; omega, fun k hk => Lib.bytesWorld_at_old _ _ _ k hk⟩⟩
  obtain rfl : (⟨w.heap.size, 0, none⟩ : Addr) = p := Option.some.inj hp
  have hcs : Lib.bytesCells w 5 (str b) = (bv b ++ List.replicate (grownCap w (str b).size 0 5 - (str b).size) (Value.int .u8 0)).toArray := by
    apply Array.ext'
    simp [Lib.bytesCells, bv, str]
  rw [Addr.add_lit, cells_at hb1, Nat.zero_add, hcs]
  simp only [List.getElem?_toArray]
  rw [List.getElem?_append_left (List.getElem?_eq_some_iff.1 hu).1]
  exact hu

set_option maxHeartbeats 8000000 in
theorem back_walk (x u p : List UInt8) (w : World) (hG : GoodC w) (hx : x.length ≤ 1048576) (hu : u.length ≤ 1048576) (hp : p.length ≤ 1048576) :
    Calls Tryz.prog 4 #[.string (str x), .string (str u), .string (str p)] w fun e w' => e = .returned (.bool true) ∧ Below w.heap.size w w' := by
  have hzx := str_size x
  have hzu := str_size u
  have hzp := str_size p
  obtain ⟨all, hall⟩ : ∃ a, a = x ++ u ++ p := ⟨_, rfl⟩
  have hal : all.length ≤ 4000000 := by rw [hall]; simp; omega
  have c1 : str x ++ str u ++ str p = str all := by rw [str_append, str_append, hall]
  have hza := str_size all
  obtain ⟨B, hB⟩ : ∃ B, B = x ++ 0 :: (u ++ 0 :: p) := ⟨_, rfl⟩
  have hBl : B.length ≤ 4000000 := by rw [hB]; simp; omega
  have c2 : str x ++ { data := #[0] } ++ str u ++ { data := #[0] } ++ str p = str B := by
    show str x ++ str [0] ++ str u ++ str [0] ++ str p = _
    rw [str_append, str_append, str_append, str_append, hB]; simp
  have hzB := str_size B
  have kc := fun (W : World) (s : ByteArray) => Lib.run_convert_string_bytes (P := Tryz.prog) W 9 33 5 s Tryz.underlying9 Tryz.underlying33 Tryz.underlying5
  have hen := fun V A c h => rencode_any A B.length c B V h rfl (by omega)
  have hpl := fun V g => smplain_any (Enc.enc B) V g (by have := Enc.enc_len B.length B (Nat.le_refl _); omega) (by rw [Enc.decV_ok rfl]; show B.length ≤ _; omega)
  have HPB : Hid ((0 : UInt8) ∉ all → plainS (Enc.enc B) = (u, p, true)) := hid (fun h => by
    rw [hB]
    rw [hall] at h
    simp only [List.mem_append, not_or] at h
    exact plain_back h.1.1 h.1.2 h.2)
  clear hall hB
  go_enter Tryz.func4, Tryz.ntmps4
  go_wp2_with (go_at_call 6; refine (shown_any w hG).mono ?_; rintro e w1 ⟨rfl, d1⟩; have B1 := hid d1; clear d1)
  go_loop [9] (fun v9 => ∃ i : Nat, i ≤ all.length ∧ v9 = .int .i64 i ∧ (0 : UInt8) ∉ all.take i) (fun v9 => all.length - (intOf v9).toNat)
  case atStart => exact ⟨0, Nat.zero_le _, rfl, by simp⟩
  case round =>
    obtain ⟨i, hi, rfl, hno⟩ := hrel
    by_cases hil : i < all.length
    · obtain ⟨c, hc⟩ : ∃ c, all[i]? = some c := ⟨_, List.getElem?_eq_getElem hil⟩
      have hix := str_ix hc
      by_cases h0 : c = 0
      · have e1 : ((c.toNat : Int) == 0) = true := by rw [h0]; rfl
        have HH := hid h0
        clear h0 hc hno
        go_wp2_with fail
        go_ret
        exact ⟨by first | rfl | simp, B1.out⟩
      · have e1 : ((c.toNat : Int) == 0) = false := by
          rw [Bool.eq_false_iff]; intro h; rw [beq_iff_eq] at h
          exact h0 (UInt8.toNat_inj.1 (by have : (0 : UInt8).toNat = 0 := rfl; omega))
        have HN : Hid ((0 : UInt8) ∉ all.take (i + 1)) := hid (by
          obtain ⟨h1, h2⟩ := List.getElem?_eq_some_iff.1 hc
          rw [List.take_succ_eq_append_getElem h1, h2]
          intro h
          rcases List.mem_append.1 h with h | h
          · exact hno h
          · simp at h; exact h0 h.symm)
        clear hc hno h0
        go_wp2_with fail
        go_round
        case rel => exact ⟨i + 1, by omega, by go_num, HN.out⟩
        case measure => (simp [intOf]) <;> omega
    · obtain rfl : i = all.length := by omega
      rw [List.take_length] at hno
      have hpl2 : ∀ V, GoodA V → Calls Tryz.prog 12 #[.string (str (Enc.enc B))] V fun e w' => e = .returned (.tuple #[.string (str u), .string (str p), .bool true]) ∧ Below V.heap.size V w' := by
        intro V g
        have := hpl V g
        rw [HPB.out hno] at this
        exact this
      clear hpl hno hil HPB
      have hbw := fun V => src_bytes V B
      have HBW := hid hbw
      clear hbw
      go_wp2_with (first
        | (go_at_call 11; refine (hen _ _ _ (HBW.out w1).1).mono ?_; rintro e w4 ⟨rfl, d4⟩; have B4 := hid (below_then (below_then B1.out (HBW.out w1).2) d4); clear d4)
        | (go_at_call 12; refine (hpl2 _ (hG.below B4.out).a).mono ?_; rintro e w5 ⟨rfl, d5⟩; have B5 := hid (below_then B4.out d5); clear d5))
      go_ret
      exact ⟨by first | rfl | simp, B5.out⟩

end Go.Proofs.YtdbggicpcbecdaaGreatDoor
