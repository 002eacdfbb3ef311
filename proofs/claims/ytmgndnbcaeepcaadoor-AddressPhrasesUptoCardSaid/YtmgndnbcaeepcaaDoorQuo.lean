/-
  A quoted word.
-/
import Derived.Test.YtmgndnbcaeepcaaDoorPlain
namespace Go.Proofs.YtmgndnbcaeepcaaDoor
open Go.RowKit Own Ad
set_option linter.unusedVariables false
set_option linter.unusedSimpArgs false
set_option maxRecDepth 100000
attribute [local go_sem] str_toList

namespace Ad
theorem qs_esc (acc : List UInt8) (c : UInt8) (r : List UInt8) : qs acc (92 :: c :: r) = if c = 13 ∨ c = 10 then none else qs (acc ++ [c]) r := by
  rw [qs]
theorem qs_other (acc : List UInt8) {c : UInt8} (r : List UInt8) (h1 : c ≠ 34) (h2 : c ≠ 92) : qs acc (c :: r) = if c = 13 ∨ c = 10 then none else qs (acc ++ [c]) r := by
  rw [qs]
  · intro h; exact h1 h
  · intro h _; exact h2 h
  · intro _ _ h _; exact h2 h
/-- What a quoted word gives: its text, whether it is one; what is left. -/
def qres (s : List UInt8) (o : Option (List UInt8 × List UInt8)) : (List UInt8 × Bool) × List UInt8 := match o with
  | some (t, r) => ((t, true), r)
  | none => (([], false), s)
end Ad

theorem bld_low {B bk : Nat} {bs : List Value} {w w' : World} (h : Lib.IsBuilder 77 5 B bk bs w) (hk : ∀ k, B ≤ k → w'.heap[k]? = w.heap[k]?) : Lib.IsBuilder 77 5 B bk bs w' := by
  have one : ∀ p, Lib.BuilderAt 77 5 B bk p bs w → Lib.BuilderAt 77 5 B bk p bs w' := by
    rintro p ⟨hB, v, hbk, hown, hne⟩
    refine ⟨hB, v, (hk bk hB).trans hbk, ⟨hown.1, ?_⟩, hne⟩
    rcases hown.2 with hn | ⟨g, cap, cur, rfl, hb2, hg, rest⟩
    · exact .inl hn
    · exact .inr ⟨g, cap, cur, rfl, hb2, (hk g hb2).trans hg, rest⟩
  rcases h with h | h
  · exact .inl (one _ h)
  · exact .inr (one _ h)
theorem bytes_bv (l : List UInt8) : Lib.byteCells l = bv l := rfl
theorem bstr_any (B b : Nat) (l : List UInt8) (w : World) (h : Lib.IsBuilder 77 5 B b (bv l) w) (hBw : B ≤ w.heap.size) :
    Calls Tryd.prog 60 #[.pointer (some ⟨b, 0, none⟩)] w fun e w' => e = .returned (.string (str l)) ∧ Below B w w' :=
  Tryd.Builder_String_any B b l w h hBw

set_option maxHeartbeats 2000000 in
theorem quoted_any (b : Nat) (s : List UInt8) (w : World) (h : RdAt w b s) (hs : s.length ≤ 140737488355320) :
    Calls Tryd.prog 44 #[.pointer (some ⟨b, 0, none⟩)] w fun e w' => e = .returned (.tuple #[.string (str (qres s (qs [] s.tail)).1.1), .bool (qres s (qs [] s.tail)).1.2]) ∧ RdAt w' b (qres s (qs [] s.tail)).2 ∧ Only b w w' := by
  obtain ⟨T, ok, R, hO⟩ : ∃ T ok R, qres s (qs [] s.tail) = ((T, ok), R) := ⟨_, _, _, rfl⟩
  rw [hO]
  dsimp only
  have hb := h.lt
  have HO : Hid (qres s (qs [] (s.drop 1)) = ((T, ok), R)) := hid (by rw [List.drop_one]; exact hO)
  have hsz := str_size s
  have a0 := (Below.refl w.heap.size w).alloc (Nat.le_refl _) (.cells #[.pointer none, .slice none 0 0] 77)
  have R0 := hid (h.below a0)
  have B0 := hid a0
  have L0 := hid (Lib.fresh_isBuilder 77 5 w)
  clear hO a0 h
  go_enter Tryd.func44, Tryd.ntmps44
  go_wp2_with fail
  go_loopw [5] (fun v5 wr => ∃ (i : Nat) (acc : List UInt8), 1 ≤ i ∧ i ≤ s.length + 1 ∧ acc.length < i ∧ v5 = .int .i64 i ∧ qres s (qs acc (s.drop i)) = ((T, ok), R) ∧ RdAt wr b s ∧ Lib.IsBuilder 77 5 w.heap.size w.heap.size (bv acc) wr ∧ Below w.heap.size w wr) (fun v5 _ => s.length + 1 - (intOf v5).toNat)
  case atStart => exact ⟨1, [], Nat.le_refl _, by omega, by simp, rfl, HO.out, R0.out, L0.out, B0.out⟩
  case round =>
    obtain ⟨i, acc, h1, hi, ha, rfl, hq, hrd, hbl, hbe⟩ := hrel
    have c0 := hrd.c
    have f0 := hrd.free
    have HR := hid hrd
    have HL := hid hbl
    have HE := hid hbe
    clear hrd hbl hbe
    by_cases hil : i < s.length
    · obtain ⟨c, hc⟩ : ∃ c, s[i]? = some c := ⟨_, List.getElem?_eq_getElem hil⟩
      have hix := str_ix hc
      rw [drop_at hc] at hq
      clear hc
      by_cases h34 : c = 34
      · have e1 : ((c.toNat : Int) == 34) = true := by rw [h34]; rfl
        rw [h34] at hq
        have hq2 : ((acc, true), s.drop (i + 1)) = ((T, ok), R) := hq
        simp only [Prod.mk.injEq] at hq2
        obtain ⟨⟨rfl, rfl⟩, rfl⟩ := hq2
        have x2 := str_from s (i + 1) s.length rfl
        have hst := fun W h1 h2 => bstr_any w.heap.size w.heap.size acc W h1 h2
        clear hq h34
        go_wp2_with (go_at_call 60; refine (hst _ (bld_low HL.out (fun k hk => Below.heap_setCell _ _ _ _ (by simp; omega))) (by simpa [World.setCell] using HE.out.size)).mono ?_; rintro e w2 ⟨rfl, d2⟩; have i2 := (HR.out.set (s.drop (i + 1))).below' d2 hb; have O2 := hid (((Only.of HE.out (Nat.le_of_lt hb)).trans (Only.set _ _ _ _)).trans' d2 hb (Nat.le_refl _)); have I2 := hid i2; clear i2 d2)
        refine bodyPost_ret (v := .tuple #[.string (str acc), .bool true]) (by simp [results, Tryd.results44, go_sem]) rfl ⟨rfl, I2.out, O2.out⟩
      · have e1 : ((c.toNat : Int) == 34) = false := by
          rw [Bool.eq_false_iff]; intro h; exact h34 ((u8_eq c 34 (by decide)).1 h)
        by_cases h92 : c = 92
        · have e2 : ((c.toNat : Int) == 92) = true := by rw [h92]; rfl
          rw [h92] at hq
          by_cases hj : i + 1 < s.length
          · obtain ⟨x, hx⟩ : ∃ x, s[i + 1]? = some x := ⟨_, List.getElem?_eq_getElem hj⟩
            have hixx := str_ix hx
            have e3 : ((i : Int) + 1 == (s.length : Int)) = false := by rw [beq_eq_false_iff_ne]; omega
            rw [drop_at hx, qs_esc] at hq
            clear hx h92
            by_cases h13 : x = 13
            · have e4 : ((x.toNat : Int) == 13) = true := by rw [h13]; rfl
              rw [if_pos (.inl h13)] at hq
              have hq2 : (([], false), s) = ((T, ok), R) := hq
              simp only [Prod.mk.injEq] at hq2
              obtain ⟨⟨rfl, rfl⟩, rfl⟩ := hq2
              clear hq h13
              go_wp2_with fail
              refine bodyPost_ret (v := .tuple #[.string (str []), .bool false]) (by simp [results, Tryd.results44, go_sem]; rfl) rfl ⟨rfl, HR.out, Only.of HE.out (Nat.le_of_lt hb)⟩
            · have e4 : ((x.toNat : Int) == 13) = false := by
                rw [Bool.eq_false_iff]; intro h; exact h13 ((u8_eq x 13 (by decide)).1 h)
              by_cases h10 : x = 10
              · have e5 : ((x.toNat : Int) == 10) = true := by rw [h10]; rfl
                rw [if_pos (.inr h10)] at hq
                have hq2 : (([], false), s) = ((T, ok), R) := hq
                simp only [Prod.mk.injEq] at hq2
                obtain ⟨⟨rfl, rfl⟩, rfl⟩ := hq2
                clear hq h13 h10
                go_wp2_with fail
                refine bodyPost_ret (v := .tuple #[.string (str []), .bool false]) (by simp [results, Tryd.results44, go_sem]; rfl) rfl ⟨rfl, HR.out, Only.of HE.out (Nat.le_of_lt hb)⟩
              · have e5 : ((x.toNat : Int) == 10) = false := by
                  rw [Bool.eq_false_iff]; intro h; exact h10 ((u8_eq x 10 (by decide)).1 h)
                rw [if_neg (by rintro (h | h); exact h13 h; exact h10 h)] at hq
                have HQ := hid hq
                have hwb := wbyte_any w.heap.size w.heap.size acc x wr HL.out (by omega) HE.out.size
                clear hq h13 h10
                go_wp2_with (go_at_call 61; refine hwb.mono ?_; rintro e w2 ⟨rfl, l2, d2⟩; have L2 := hid l2; have D2 := hid d2; clear l2 d2)
                go_roundw
                case rel => exact ⟨i + 2, acc ++ [x], by omega, by omega, by simp; omega, by go_num, HQ.out, HR.out.below' D2.out hb, L2.out, HE.out.trans D2.out⟩
                case measure => simp [intOf]; omega
          · have e3 : ((i : Int) + 1 == (s.length : Int)) = true := by rw [beq_iff_eq]; omega
            rw [List.drop_eq_nil_of_le (show s.length ≤ i + 1 by omega)] at hq
            have hq2 : (([], false), s) = ((T, ok), R) := hq
            simp only [Prod.mk.injEq] at hq2
            obtain ⟨⟨rfl, rfl⟩, rfl⟩ := hq2
            clear hq h92
            go_wp2_with fail
            refine bodyPost_ret (v := .tuple #[.string (str []), .bool false]) (by simp [results, Tryd.results44, go_sem]; rfl) rfl ⟨rfl, HR.out, Only.of HE.out (Nat.le_of_lt hb)⟩
        · have e2 : ((c.toNat : Int) == 92) = false := by
            rw [Bool.eq_false_iff]; intro h; exact h92 ((u8_eq c 92 (by decide)).1 h)
          rw [qs_other acc _ h34 h92] at hq
          clear h34 h92
          by_cases h13 : c = 13
          · have e4 : ((c.toNat : Int) == 13) = true := by rw [h13]; rfl
            rw [if_pos (.inl h13)] at hq
            have hq2 : (([], false), s) = ((T, ok), R) := hq
            simp only [Prod.mk.injEq] at hq2
            obtain ⟨⟨rfl, rfl⟩, rfl⟩ := hq2
            clear hq h13
            go_wp2_with fail
            refine bodyPost_ret (v := .tuple #[.string (str []), .bool false]) (by simp [results, Tryd.results44, go_sem]; rfl) rfl ⟨rfl, HR.out, Only.of HE.out (Nat.le_of_lt hb)⟩
          · have e4 : ((c.toNat : Int) == 13) = false := by
              rw [Bool.eq_false_iff]; intro h; exact h13 ((u8_eq c 13 (by decide)).1 h)
            by_cases h10 : c = 10
            · have e5 : ((c.toNat : Int) == 10) = true := by rw [h10]; rfl
              rw [if_pos (.inr h10)] at hq
              have hq2 : (([], false), s) = ((T, ok), R) := hq
              simp only [Prod.mk.injEq] at hq2
              obtain ⟨⟨rfl, rfl⟩, rfl⟩ := hq2
              clear hq h13 h10
              go_wp2_with fail
              refine bodyPost_ret (v := .tuple #[.string (str []), .bool false]) (by simp [results, Tryd.results44, go_sem]; rfl) rfl ⟨rfl, HR.out, Only.of HE.out (Nat.le_of_lt hb)⟩
            · have e5 : ((c.toNat : Int) == 10) = false := by
                rw [Bool.eq_false_iff]; intro h; exact h10 ((u8_eq c 10 (by decide)).1 h)
              rw [if_neg (by rintro (h | h); exact h13 h; exact h10 h)] at hq
              have HQ := hid hq
              have hwb := wbyte_any w.heap.size w.heap.size acc c wr HL.out (by omega) HE.out.size
              clear hq h13 h10
              go_wp2_with (go_at_call 61; refine hwb.mono ?_; rintro e w2 ⟨rfl, l2, d2⟩; have L2 := hid l2; have D2 := hid d2; clear l2 d2)
              go_roundw
              case rel => exact ⟨i + 1, acc ++ [c], by omega, by omega, by simp; omega, by go_num, HQ.out, HR.out.below' D2.out hb, L2.out, HE.out.trans D2.out⟩
              case measure => simp [intOf]; omega
    · rw [List.drop_eq_nil_of_le (by omega)] at hq
      have hq2 : (([], false), s) = ((T, ok), R) := hq
      simp only [Prod.mk.injEq] at hq2
      obtain ⟨⟨rfl, rfl⟩, rfl⟩ := hq2
      clear hq
      go_wp2_with fail
      refine bodyPost_ret (v := .tuple #[.string (str []), .bool false]) (by simp [results, Tryd.results44, go_sem]; rfl) rfl ⟨rfl, HR.out, Only.of HE.out (Nat.le_of_lt hb)⟩

end Go.Proofs.YtmgndnbcaeepcaaDoor
