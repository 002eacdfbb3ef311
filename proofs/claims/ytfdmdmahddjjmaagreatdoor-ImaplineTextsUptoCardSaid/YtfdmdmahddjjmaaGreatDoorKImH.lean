/-
  A list of flags.
-/
import Derived.Test.YtfdmdmahddjjmaaGreatDoorKImG
namespace Go.Proofs.YtfdmdmahddjjmaaGreatDoor
open Go.RowKit Own Im
set_option linter.unusedVariables false
set_option linter.unusedSimpArgs false
set_option maxRecDepth 100000
attribute [local go_sem] str_toList str_size

theorem or_i64 (a b : Nat) (ha : a < 32) (hb : b < 32) : bits .or .i64 (a : Int) (b : Int) = ((a ||| b : Nat) : Int) := by
  refine (bits_nat .i64 5 (by decide) (fun n h0 h1 => ?_) a b ha hb).2
  rw [IntKind.wrap_i64]
  omega
theorem or_lt (a b : Nat) (ha : a < 32) (hb : b < 32) : a ||| b < 32 := Nat.or_lt_two_pow (n := 5) ha hb
theorem flag_b {s t : Bt} {i : Nat} (h : Im.flag s = some (i, t)) : i < 32 := by
  unfold Im.flag at h
  obtain ⟨s1, h1, h⟩ := Option.bind_eq_some_iff.1 h
  obtain ⟨k, h2, h3⟩ := Option.map_eq_some_iff.1 h
  cases h3
  rcases flagAt_lt h2 with rfl | rfl | rfl | rfl | rfl <;> decide
theorem listL_t (f n : Nat) (t : Bt) : listL (f + 1) true n t = if (takes [41] t).1 = true then some (n, (takes [41] t).2) else (Im.flag t).bind fun q => listL f false (n ||| q.1) q.2 := by
  rw [listL.eq_def]
  simp
theorem listL_f (f n : Nat) (t : Bt) : listL (f + 1) false n t = if (takes [41] t).1 = true then some (n, (takes [41] t).2) else (sign [32] t).bind fun s => (Im.flag s).bind fun q => listL f false (n ||| q.1) q.2 := by
  rw [listL.eq_def]
  simp

set_option maxHeartbeats 2000000 in
theorem list_any (b : Nat) (s : Bt) (w : World) (h : RdI w b s) :
    Calls Tryz.prog 95 #[.pointer (some ⟨b, 0, none⟩)] w fun e w' => Reads b w vFlags (Im.list s) e w' := by
  have H := hid h
  clear h
  obtain ⟨R, hR⟩ : ∃ R, R = Im.list s := ⟨_, rfl⟩
  rw [← hR]
  have HR := hid hR
  clear hR
  go_enter Tryz.func95, Tryz.ntmps95
  go_wp2_with (first
    | (go_at_call 53; refine (sign_any b s [40] _ H.out).mono ?_; intro e w1 h1; rcases sign_cases h1 with ⟨q1, rfl, o1⟩ | ⟨s1, q1, rfl, r1, o1⟩ <;> (first | (have O1 := hid o1; have Q1 := hid q1; have R1 := hid r1; clear o1 q1 r1 h1) | (have O1 := hid o1; have Q1 := hid q1; clear o1 q1 h1))))
  all_goals first
    | (refine ⟨rfl, Reads.panic ?_ O1.out⟩; rw [HR.out]; simp [Im.list, Q1.out]; done)
    | skip
  have hR1 : R = listL (s1.length + 1) true 0 s1 := by rw [HR.out]; simp [Im.list, Q1.out]
  go_loopw [3, 4] (fun v3 v4 wr => ∃ (f n : Nat) (fst : Bool) (t : Bt), v3 = .int .i64 n ∧ v4 = .bool fst ∧ R = listL f fst n t ∧ t.length < f ∧ n < 32 ∧ RdI wr b t ∧ Only b w wr) (fun _ _ wr => rdLen b wr)
  case atStart => exact ⟨_, 0, true, s1, rfl, rfl, hR1, Nat.lt_succ_self _, by decide, R1.out, O1.out⟩
  case round =>
    obtain ⟨f, n, fst, t, rfl, rfl, hr, hl, hn, hrd, ho⟩ := hrel
    obtain ⟨f, rfl⟩ : ∃ k, f = k + 1 := ⟨f - 1, by omega⟩
    have HRd := hid hrd
    have HO := hid ho
    clear hrd ho hR1
    cases fst with
    | true =>
      rw [listL_t] at hr
      have HR2 := hid hr
      clear hr
      go_wp2_with (first
        | (go_at_call 26; refine (takes_any b t [41] _ HRd.out).mono ?_; intro e w2 h2; rcases takes_cases h2 with ⟨s2, q2, rfl, r2, o2⟩ | ⟨s2, q2, rfl, r2, o2⟩ <;> (have O2 := hid o2; have Q2 := hid q2; have R2 := hid r2; clear o2 q2 r2 h2))
        | (go_at_call 97; refine (flag_any b s2 _ R2.out).mono ?_; intro e w4 h4; rcases h4.cases with ⟨q4, rfl, o4⟩ | ⟨x4, s4, y4, q4, rfl, rfl, r4, o4⟩ <;> (first | (have hb4 := flag_b q4; have hlt4 := flag_lt q4; have hor := or_i64 n x4 hn hb4; have O4 := hid o4; have Q4 := hid q4; have R4 := hid r4; clear o4 q4 r4 h4) | (have O4 := hid o4; have Q4 := hid q4; clear o4 q4 h4))))
      all_goals first
        | (refine ⟨rfl, Reads.panic ?_ ((HO.out.trans O2.out).trans O4.out)⟩; rw [HR2.out, if_neg (by rw [Q2.out]; simp)]; obtain rfl := takes_no Q2.out; rw [Q4.out]; rfl)
        | (obtain rfl := takes_no Q2.out; refine ⟨⟨f, n ||| x4, false, s4, rfl, rfl, (by rw [HR2.out, if_neg (by rw [Q2.out]; simp), Q4.out]; rfl), by omega, or_lt _ _ hn hb4, R4.out, (HO.out.trans O2.out).trans O4.out⟩, (by rw [rdLen_of R4.out, rdLen_of HRd.out]; omega)⟩)
        | (go_ret; exact Reads.give (by rw [HR2.out, if_pos (by rw [Q2.out]), Q2.out]) (HO.out.trans O2.out) rfl R2.out)
    | false =>
      rw [listL_f] at hr
      have HR2 := hid hr
      clear hr
      go_wp2_with (first
        | (go_at_call 26; refine (takes_any b t [41] _ HRd.out).mono ?_; intro e w2 h2; rcases takes_cases h2 with ⟨s2, q2, rfl, r2, o2⟩ | ⟨s2, q2, rfl, r2, o2⟩ <;> (have O2 := hid o2; have Q2 := hid q2; have R2 := hid r2; clear o2 q2 r2 h2))
        | (go_at_call 53; refine (sign_any b s2 [32] _ R2.out).mono ?_; intro e w3 h3; rcases sign_cases h3 with ⟨q3, rfl, o3⟩ | ⟨s3, q3, rfl, r3, o3⟩ <;> (first | (have O3 := hid o3; have Q3 := hid q3; have R3 := hid r3; clear o3 q3 r3 h3) | (have O3 := hid o3; have Q3 := hid q3; clear o3 q3 h3)))
        | (go_at_call 97; refine (flag_any b s3 _ R3.out).mono ?_; intro e w4 h4; rcases h4.cases with ⟨q4, rfl, o4⟩ | ⟨x4, s4, y4, q4, rfl, rfl, r4, o4⟩ <;> (first | (have hb4 := flag_b q4; have hlt4 := flag_lt q4; have hor := or_i64 n x4 hn hb4; have O4 := hid o4; have Q4 := hid q4; have R4 := hid r4; clear o4 q4 r4 h4) | (have O4 := hid o4; have Q4 := hid q4; clear o4 q4 h4))))
      all_goals first
        | (refine ⟨rfl, Reads.panic ?_ ((HO.out.trans O2.out).trans O3.out)⟩; rw [HR2.out, if_neg (by rw [Q2.out]; simp)]; obtain rfl := takes_no Q2.out; rw [Q3.out]; rfl)
        | (refine ⟨rfl, Reads.panic ?_ (((HO.out.trans O2.out).trans O3.out).trans O4.out)⟩; rw [HR2.out, if_neg (by rw [Q2.out]; simp)]; obtain rfl := takes_no Q2.out; rw [Q3.out, Option.bind_some, Q4.out]; rfl)
        | (obtain rfl := takes_no Q2.out; have hs3 := sign_le Q3.out; refine ⟨⟨f, n ||| x4, false, s4, rfl, rfl, (by rw [HR2.out, if_neg (by rw [Q2.out]; simp), Q3.out, Option.bind_some, Q4.out]; rfl), by omega, or_lt _ _ hn hb4, R4.out, ((HO.out.trans O2.out).trans O3.out).trans O4.out⟩, (by rw [rdLen_of R4.out, rdLen_of HRd.out]; omega)⟩)
        | (go_ret; exact Reads.give (by rw [HR2.out, if_pos (by rw [Q2.out]), Q2.out]) (HO.out.trans O2.out) rfl R2.out)
end Go.Proofs.YtfdmdmahddjjmaaGreatDoor
