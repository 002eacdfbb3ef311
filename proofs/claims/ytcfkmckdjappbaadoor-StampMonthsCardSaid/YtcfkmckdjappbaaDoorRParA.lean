/-
  Parse of the reference: any text.
-/
import Derived.Test.YtcfkmckdjappbaaDoorRParB
namespace Go.Proofs.YtcfkmckdjappbaaDoor
open Go.RowKit Own
set_option linter.unusedVariables false
set_option linter.unusedSimpArgs false
set_option maxRecDepth 100000

attribute [local go_sem] str_toList str_size

theorem digN_rng (l : List UInt8) (h : l.length ≤ 8) : 0 ≤ digN l ∧ digN l ≤ 100000000 := by
  unfold digN
  split
  · rename_i hd
    exact numI_rng l h (of_decide_eq_true hd)
  · exact ⟨by decide, by decide⟩

set_option maxHeartbeats 4000000 in
theorem rparse_second (s : ByteArray) (c0 c2 c6 c11 c14 c17 c20 c21 : UInt8) (dq q3 q7 q12 q15 q18 q22 q24 : List UInt8) (w : World) (hs : s.size = 26) (hb : bad1 c2 c6 c11 c14 c17 c20 c21 = false)
    (i0 : ∀ h, s[0]'h = c0) (i2 : ∀ h, s[2]'h = c2) (i6 : ∀ h, s[6]'h = c6) (i11 : ∀ h, s[11]'h = c11) (i14 : ∀ h, s[14]'h = c14) (i17 : ∀ h, s[17]'h = c17) (i20 : ∀ h, s[20]'h = c20) (i21 : ∀ h, s[21]'h = c21)
    (s1 : c0 = 32 → s.extract 1 2 = str dq) (s0 : c0 ≠ 32 → s.extract 0 2 = str dq) (s3 : s.extract 3 6 = str q3) (s7 : s.extract 7 11 = str q7) (s12 : s.extract 12 14 = str q12) (s15 : s.extract 15 17 = str q15) (s18 : s.extract 18 20 = str q18) (s22 : s.extract 22 24 = str q22) (s24 : s.extract 24 26 = str q24)
    (nd : dq.length ≤ 8) (n7 : q7.length ≤ 8) (n12 : q12.length ≤ 8) (n15 : q15.length ≤ 8) (n18 : q18.length ≤ 8) (n22 : q22.length ≤ 8) (n24 : q24.length ≤ 8) (out : Int × Int)
    (ho : out = if bad2 dq q7 q12 q15 q18 q22 q24 c0 then ((0 : Int), (80 : Int)) else momP ((secPair (digN q7) (lastM q3 12) (digN dq) (digN q12) (digN q15) (digN q18)).1 + (if c21 = 43 then -(digN q22 * 3600 + digN q24 * 60) else digN q22 * 3600 + digN q24 * 60)) (secPair (digN q7) (lastM q3 12) (digN dq) (digN q12) (digN q15) (digN q18)).2) :
    Calls Tryd.prog 19 #[.string s] w fun e w' => e = .returned (parseV out) ∧ Below w.heap.size w w' := by
  have hb' : c2 = 45 ∧ c6 = 45 ∧ c11 = 32 ∧ c14 = 58 ∧ c17 = 58 ∧ c20 = 32 ∧ (c21 = 43 ∨ c21 = 45) := by
    simp [bad1] at hb
    simp [hb]
    by_cases h : c21 = 43
    · exact .inl h
    · exact .inr (hb.2 h)
  obtain ⟨d2, d6, d11, d14, d17, d20, d21⟩ := hb'
  have e2 := u8_eq c2 45 45 rfl d2
  have e6 := u8_eq c6 45 45 rfl d6
  have e11 := u8_eq c11 32 32 rfl d11
  have e14 := u8_eq c14 58 58 rfl d14
  have e17 := u8_eq c17 58 58 rfl d17
  have e20 := u8_eq c20 32 32 rfl d20
  have HO := hid ho
  have S1 := hid s1
  have S0 := hid s0
  have I0 := hid i0
  have HB := heap_alloc_new w (.cells #[.int .i64 0, .int .i64 0, .int .i64 0, .int .i64 0, .int .i64 0, .int .i64 0, .int .i64 0] 24 (0, 0))
  have HBE : Below w.heap.size w (w.alloc (.cells #[.int .i64 0, .int .i64 0, .int .i64 0, .int .i64 0, .int .i64 0, .int .i64 0, .int .i64 0] 24 (0, 0))) := (Below.refl _ _).alloc (Nat.le_refl _) _
  have HB' := hid HB
  have HBE' := hid HBE
  clear d2 d6 d11 d14 d17 d20 ho hb s1 s0 HB HBE
  go_enter Tryd.func19, Tryd.ntmps19
  have D21 := hid d21
  clear d21
  go_upto_region 1 with fail
  go_cut [65] (fun v65 wx => v65 = .bool false ∧ w = wx)
  case first =>
    rcases D21.out with d21 | d21
    · have e21 := u8_eq c21 43 43 rfl d21
      clear d21
      go_wp2
      go_meet
      case rel => exact ⟨rfl, rfl⟩
    · have e21 : ((c21.toNat : Int) != 43) = true := by rw [d21]; rfl
      have e22 := u8_eq c21 45 45 rfl d21
      clear d21
      go_wp2
      go_meet
      case rel => exact ⟨rfl, rfl⟩
  case rest =>
  obtain ⟨rfl, rfl⟩ := hcut
  have I21 := hid i21
  clear e2 e6 e11 e14 e17 e20 i2 i6 i11 i14 i17 i20 i21
  go_upto_if 71 with fail
  go_cut [5] (fun v5 wx => v5 = .string (str dq) ∧ w.alloc (.cells #[.int .i64 0, .int .i64 0, .int .i64 0, .int .i64 0, .int .i64 0, .int .i64 0, .int .i64 0] 24 (0, 0)) = wx)
  case first =>
    by_cases c : c0 = 32
    · have hc : ((c0.toNat : Int) == 32) = true := by rw [c]; rfl
      have s1 := S1.out c
      clear c i0
      go_wp2
      go_meet
      case rel => exact ⟨rfl, rfl⟩
    · have hc : ((c0.toNat : Int) == 32) = false := by
        have := u8_ne c0 32 32 rfl c
        simpa using this
      have s0 := S0.out c
      clear c i0
      go_wp2
      go_meet
      case rel => exact ⟨by first | rfl | rw [s0], rfl⟩
  case rest =>
  obtain ⟨rfl, hwx⟩ := hcut
  rw [hwx] at HB' HBE'
  obtain ⟨w1, hw1⟩ : ∃ w1 : World, w1 = wc := ⟨_, rfl⟩
  rw [← hw1] at HB' HBE' hwx
  rw [← hw1]
  clear hw1 hwx
  go_upto_region 13 with ((go_at_call 36; refine (rdigits_any _ _ (by assumption)).mono ?_; rintro e w2 ⟨rfl, rfl⟩))
  go_cut [6, 7, 8, 9, 10, 11, 12, 13, 14, 15, 16, 17, 18, 19] (fun v6 v7 v8 v9 v10 v11 v12 v13 v14 v15 v16 v17 v18 v19 wx => v6 = .int .i64 (digN dq) ∧ v7 = .bool (digB dq) ∧ v8 = .int .i64 (digN q7) ∧ v9 = .bool (digB q7) ∧ v10 = .int .i64 (digN q12) ∧ v11 = .bool (digB q12) ∧ v12 = .int .i64 (digN q15) ∧ v13 = .bool (digB q15) ∧ v14 = .int .i64 (digN q18) ∧ v15 = .bool (digB q18) ∧ v16 = .int .i64 (digN q22) ∧ v17 = .bool (digB q22) ∧ v18 = .int .i64 (digN q24) ∧ v19 = .bool (digB q24) ∧ w1 = wx)
  case first =>
    go_wp2_with ((go_at_call 36; refine (rdigits_any _ _ (by assumption)).mono ?_; rintro e w2 ⟨rfl, rfl⟩))
    go_meet
    case rel => exact ⟨rfl, rfl, rfl, rfl, rfl, rfl, rfl, rfl, rfl, rfl, rfl, rfl, rfl, rfl, rfl⟩
  case rest =>
  obtain ⟨rfl, rfl, rfl, rfl, rfl, rfl, rfl, rfl, rfl, rfl, rfl, rfl, rfl, rfl, rfl⟩ := hcut
  have r22 := digN_rng q22 n22
  have r24 := digN_rng q24 n24
  refine ‹∀ (a : Act) (w : World), Code.wp Tryd.prog _ _ a w → _› _ _ ?_
  exact rparse_tail12 s w w1 c0 c21 q3 _ _ _ _ _ _ _ _ _ _ _ _ _ _  out _ _ _ _ _ _ _ _ _ _ _ _ _ _ _ _ _ _ _ _ _ _ _ _ _ _ _ _ _ _ _ _ _ _ _ _ _ _ _ _ _ _ _ _ _ _ _ _ _ _ _ _ _ _ _ _ _ _ _ _ _ _ _ _ _ _ _ _ _ _ _ _ _ _ _ _ _ _ _ _ _ _ _ _ _ _ _ _ _ _ _ _ _ _ _ _ _ _ _ _ _ _ _ _ _ _ _ _ _ _ _ _ _ _ _ _ _ _ _ _ _ _ _ _ _ _ _ _ _ _ _ _ _ _ _ _ _ _ _ _ _ _ _ _ _ _ _ _ _ _ _ _ _ _ _ _ _ _ _ _ _ _ _ _ _ _ _ _ _ _ _ _ _ _ _ _ _ _ _ _ _ _ _ _ _ _ _ _ _ _ _ _  hs s3 I21.out HB' HBE' I0.out r22 r24 HO.out


end Go.Proofs.YtcfkmckdjappbaaDoor
