/-
  The reference's Encode64.
-/
import Derived.Test.YtdbggicpcbecdaaGreatDoorStr
import Derived.Test.YtdbggicpcbecdaaGreatDoorBuf
import Derived.Test.YtdbggicpcbecdaaGreatDoorEnc
import Derived.Test.YtdbggicpcbecdaaGreatDoorEncLaw
import Derived.Test.YtdbggicpcbecdaaGreatDoorBits
namespace Go.Proofs.YtdbggicpcbecdaaGreatDoor
open Go.RowKit Own Dec
set_option linter.unusedVariables false
set_option linter.unusedSimpArgs false
set_option maxRecDepth 100000

theorem rl64_any (n : Int) (w : World) (h0 : 0 ≤ n) (h1 : n < 64) :
    Calls Tryz.prog 19 #[.int .i64 n] w fun e w' => e = .returned (.int .u8 (Enc.Lc n.toNat).toNat) ∧ w = w' := by
  have hix : ∀ h, ((str Enc.L64)[n.toNat]'h) = Enc.Lc n.toNat := by
    intro h
    have h2 : n.toNat < Enc.L64.length := by have : Enc.L64.length = 64 := rfl; omega
    have : (str Enc.L64)[n.toNat]'h = Enc.L64[n.toNat]'h2 := rfl
    rw [this]
    simp [Enc.Lc, List.getD, h2]
  have hb : 0 ≤ n ∧ n < 64 := ⟨h0, h1⟩
  go_enter Tryz.func19, Tryz.ntmps19
  go_wp2
  go_ret
  exact ⟨by rw [← hix]; rfl, rfl⟩


set_option maxHeartbeats 2000000 in
theorem rencode_any (A : Option Addr) (nn cc : Nat) (bs : List UInt8) (w : World) (hs : Src w A (bv bs)) (hn : nn = bs.length) (hl : bs.length ≤ 17592186044416) :
    Calls Tryz.prog 11 #[.slice A nn cc] w fun e w' => e = .returned (.string (str (Enc.enc bs))) ∧ Below w.heap.size w w' := by
  subst hn
  have HB0 := hid (Buf.lit w [] (by simp))
  have L0 := hid ((Below.refl w.heap.size w).alloc (Nat.le_refl _) (.cells (bv []).toArray 5 (0, 0)))
  have HS := hid hs
  clear hs
  go_enter Tryz.func11, Tryz.ntmps11
  go_wp2_with fail
  go_loopw [3, 4, 5, 6] (fun v3 v4 v5 v6 wr => ∃ (i n m : Nat) (k5 : Int) (o : List UInt8), i ≤ bs.length ∧ m < 3 ∧ n < 4 ^ m ∧ o.length % 4 = m ∧ o.length ≤ 2 * i ∧ o ++ Enc.encR n m (bs.drop i) = Enc.enc bs ∧ v4 = .int .i64 n ∧ v5 = .int .i64 k5 ∧ k5 = 2 * m ∧ v6 = .int .i64 i ∧ Buf w.heap.size wr v3 o ∧ Below w.heap.size w wr) (fun _ _ _ v6 _ => bs.length - (intOf v6).toNat)
  case atStart => exact ⟨0, 0, 0, 0, [], Nat.zero_le _, by omega, by decide, rfl, by simp, rfl, rfl, rfl, rfl, rfl, HB0.out, L0.out⟩
  case round =>
    obtain ⟨i, n, m, k5, o, hi, hm, hn4, ho4, ho2, heq, rfl, rfl, hk5, rfl, hbuf, hbel⟩ := hrel
    have HEQ := hid heq
    have HBUF := hid hbuf
    have HBE := hid hbel
    have HK5 := hid hk5
    have hk5a : 0 ≤ k5 := by omega
    have hk5b : k5 ≤ 4 := by omega
    clear heq hbuf hbel hk5
    by_cases hil : i < bs.length
    · have e1 : decide ((i : Int) < bs.length) = true := decide_eq_true (by omega)
      obtain ⟨c, hc⟩ : ∃ c, c = bs[i] := ⟨_, rfl⟩
      have hsr := HS.out.below HBE.out
      obtain ⟨p, rfl⟩ : ∃ p, A = some p := by
        cases A with
        | none => have := hsr.1 rfl; simp [bv] at this; rw [this] at hil; simp at hil
        | some p => exact ⟨p, rfl⟩
      have hcell := hsr.2 p rfl i (.int .u8 c.toNat) (by simp [bv, hil, hc])
      have hdr : bs.drop i = c :: bs.drop (i + 1) := by rw [List.drop_eq_getElem_cons hil, hc]
      have heq2 := HEQ.out
      rw [hdr, Enc.encR_cons] at heq2
      have hlt := c.toNat_lt
      have hN : 256 * n + c.toNat < 4 ^ (m + 4) := by
        rw [Nat.pow_add]; have : (4 : Nat) ^ 4 = 256 := rfl; omega
      have h42 : (4 : Nat) ^ m ≤ 16 := by
        have : m = 0 ∨ m = 1 ∨ m = 2 := by omega
        rcases this with rfl | rfl | rfl <;> decide
      have HE2 := hid heq2
      have HNN := hid hN
      have hn16 : n < 16 := by omega
      have HM := hid (And.intro hm (And.intro hn4 ho4))
      clear hsr hc hdr heq2 hN hm hn4 h42 ho4
      go_wp2_with fail
      obtain ⟨N, hNd⟩ : ∃ N, N = 256 * n + c.toNat := ⟨_, rfl⟩
      obtain ⟨M, hMd⟩ : ∃ M, M = m + 4 := ⟨_, rfl⟩
      have hNi : (256 * (n : Int) + (c.toNat : Int)) = (N : Int) := by omega
      have hN := HNN.out
      have heq2 := HE2.out
      rw [← hNd, ← hMd] at hN heq2
      have HE3 := hid heq2
      have HN3 := hid hN
      have hm := HM.out.1
      have ho4 := HM.out.2.2
      have hk5 := HK5.out
      clear heq2 hN HE2 HNN
      go_loopw [3, 4, 5] (fun v3 v4 v5 wz => ∃ (o' : List UInt8) (n' m' : Nat) (k5 : Int), m' ≤ 6 ∧ n' < 4 ^ m' ∧ o' ++ (Enc.fl n' m').1 = o ++ (Enc.fl N M).1 ∧ (Enc.fl n' m').2 = (Enc.fl N M).2 ∧ o'.length + m' / 3 ≤ 2 * i + 2 ∧ v4 = .int .i64 n' ∧ v5 = .int .i64 k5 ∧ k5 = 2 * m' ∧ Buf w.heap.size wz v3 o' ∧ Below w.heap.size w wz) (fun _ _ v5 _ => (intOf v5).toNat)
      case atStart =>
        refine ⟨o, N, M, _, by omega, HN3.out, rfl, rfl, by omega, ?_, rfl, by omega, HBUF.out, HBE.out⟩
        · first | rfl | rw [← hNi]
      case round =>
        obtain ⟨o', n', m', k5', hm6, hn6, heo, hef, hol, rfl, rfl, hk5', hbuf2, hbel2⟩ := hrel
        have HEO := hid heo
        have HEF := hid hef
        have HBUF2 := hid hbuf2
        have HBE2 := hid hbel2
        have HMD := hid hMd
        clear heo hef hbuf2 hbel2 hNi hNd hMd hk5 ho4
        by_cases h3 : 3 ≤ m'
        · have hst := Enc.fl_step (n := n') h3
          have hm' : m' = 3 ∨ m' = 4 ∨ m' = 5 ∨ m' = 6 := by omega
          have HST := hid hst
          clear hst h3
          rcases hm' with rfl | rfl | rfl | rfl
          · have hn64 : n' < 64 := by simpa using hn6
            obtain rfl : k5' = 6 := by omega
            have e2 : decide ((6 : Int) ≤ 6) = true := by decide
            have hbt : bits .and .i64 (n' : Int) 0 = ((n' % 1 : Nat) : Int) := Bit.low 0 (by decide) n' (by omega) 0 rfl
            have hL : ∀ w', Calls Tryz.prog 19 #[.int .i64 ((n' : Int))] w' fun e w2 => e = .returned (.int .u8 (Enc.Lc (n')).toNat) ∧ w' = w2 := by
              intro w'
              have := rl64_any ((n' : Int)) w' (by omega) (by omega)
              rw [show ((n' : Int)).toNat = n' by omega] at this
              exact this
            have hstep : Enc.fl n' 3 = (Enc.Lc (n') :: (Enc.fl (n' % 1) 0).1, (Enc.fl (n' % 1) 0).2) := by simpa using HST.out
            have h1 := HEO.out
            have h2 := HEF.out
            rw [hstep] at h1 h2
            have HH1 := hid h1
            have HH2 := hid h2
            have HBT := hid hbt
            clear hstep h1 h2 HST hn6 hk5' hbt
            generalize Enc.Lc (n') = x at *
            go_wp2_with (first
              | (go_at_call 19; refine (hL _).mono ?_; rintro e w3 ⟨rfl, rfl⟩)
              | (at_builtin; refine wpList_buf w.heap.size _ rfl _ _ rfl u3 o' [x] rfl (HBUF2.out.alloc _) _ 1 1 rfl rfl (one_src wr x _ rfl) (by simp; omega) ?_; intro v' w1 hr1 hb1))
            go_roundw
            case rel =>
              refine ⟨o' ++ [x], n' % 1, 0, 0, by omega, by simp <;> omega, ?_, HH2.out, by simp; omega, ?_, rfl, by decide, hr1, (HBE2.out.alloc HBUF2.out.2 _).trans hb1⟩
              · rw [List.append_assoc]; exact HH1.out
              · rw [HBT.out]
            case measure => simp [intOf]
          · have hn64 : n' < 256 := by simpa using hn6
            obtain rfl : k5' = 8 := by omega
            have e2 : decide ((6 : Int) ≤ 8) = true := by decide
            have hbt : bits .and .i64 (n' : Int) 3 = ((n' % 4 : Nat) : Int) := Bit.low 2 (by decide) n' (by omega) 3 rfl
            have hL : ∀ w', Calls Tryz.prog 19 #[.int .i64 ((n' : Int) / 4)] w' fun e w2 => e = .returned (.int .u8 (Enc.Lc (n' / 4)).toNat) ∧ w' = w2 := by
              intro w'
              have := rl64_any ((n' : Int) / 4) w' (by omega) (by omega)
              rw [show ((n' : Int) / 4).toNat = n' / 4 by omega] at this
              exact this
            have hstep : Enc.fl n' 4 = (Enc.Lc (n' / 4) :: (Enc.fl (n' % 4) 1).1, (Enc.fl (n' % 4) 1).2) := by simpa using HST.out
            have h1 := HEO.out
            have h2 := HEF.out
            rw [hstep] at h1 h2
            have HH1 := hid h1
            have HH2 := hid h2
            have HBT := hid hbt
            clear hstep h1 h2 HST hn6 hk5' hbt
            generalize Enc.Lc (n' / 4) = x at *
            go_wp2_with (first
              | (go_at_call 19; refine (hL _).mono ?_; rintro e w3 ⟨rfl, rfl⟩)
              | (at_builtin; refine wpList_buf w.heap.size _ rfl _ _ rfl u3 o' [x] rfl (HBUF2.out.alloc _) _ 1 1 rfl rfl (one_src wr x _ rfl) (by simp; omega) ?_; intro v' w1 hr1 hb1))
            go_roundw
            case rel =>
              refine ⟨o' ++ [x], n' % 4, 1, 2, by omega, by simp <;> omega, ?_, HH2.out, by simp; omega, ?_, rfl, by decide, hr1, (HBE2.out.alloc HBUF2.out.2 _).trans hb1⟩
              · rw [List.append_assoc]; exact HH1.out
              · rw [HBT.out]
            case measure => simp [intOf]
          · have hn64 : n' < 1024 := by simpa using hn6
            obtain rfl : k5' = 10 := by omega
            have e2 : decide ((6 : Int) ≤ 10) = true := by decide
            have hbt : bits .and .i64 (n' : Int) 15 = ((n' % 16 : Nat) : Int) := Bit.low 4 (by decide) n' (by omega) 15 rfl
            have hL : ∀ w', Calls Tryz.prog 19 #[.int .i64 ((n' : Int) / 16)] w' fun e w2 => e = .returned (.int .u8 (Enc.Lc (n' / 16)).toNat) ∧ w' = w2 := by
              intro w'
              have := rl64_any ((n' : Int) / 16) w' (by omega) (by omega)
              rw [show ((n' : Int) / 16).toNat = n' / 16 by omega] at this
              exact this
            have hstep : Enc.fl n' 5 = (Enc.Lc (n' / 16) :: (Enc.fl (n' % 16) 2).1, (Enc.fl (n' % 16) 2).2) := by simpa using HST.out
            have h1 := HEO.out
            have h2 := HEF.out
            rw [hstep] at h1 h2
            have HH1 := hid h1
            have HH2 := hid h2
            have HBT := hid hbt
            clear hstep h1 h2 HST hn6 hk5' hbt
            generalize Enc.Lc (n' / 16) = x at *
            go_wp2_with (first
              | (go_at_call 19; refine (hL _).mono ?_; rintro e w3 ⟨rfl, rfl⟩)
              | (at_builtin; refine wpList_buf w.heap.size _ rfl _ _ rfl u3 o' [x] rfl (HBUF2.out.alloc _) _ 1 1 rfl rfl (one_src wr x _ rfl) (by simp; omega) ?_; intro v' w1 hr1 hb1))
            go_roundw
            case rel =>
              refine ⟨o' ++ [x], n' % 16, 2, 4, by omega, by simp <;> omega, ?_, HH2.out, by simp; omega, ?_, rfl, by decide, hr1, (HBE2.out.alloc HBUF2.out.2 _).trans hb1⟩
              · rw [List.append_assoc]; exact HH1.out
              · rw [HBT.out]
            case measure => simp [intOf]
          · have hn64 : n' < 4096 := by simpa using hn6
            obtain rfl : k5' = 12 := by omega
            have e2 : decide ((6 : Int) ≤ 12) = true := by decide
            have hbt : bits .and .i64 (n' : Int) 63 = ((n' % 64 : Nat) : Int) := Bit.low 6 (by decide) n' (by omega) 63 rfl
            have hL : ∀ w', Calls Tryz.prog 19 #[.int .i64 ((n' : Int) / 64)] w' fun e w2 => e = .returned (.int .u8 (Enc.Lc (n' / 64)).toNat) ∧ w' = w2 := by
              intro w'
              have := rl64_any ((n' : Int) / 64) w' (by omega) (by omega)
              rw [show ((n' : Int) / 64).toNat = n' / 64 by omega] at this
              exact this
            have hstep : Enc.fl n' 6 = (Enc.Lc (n' / 64) :: (Enc.fl (n' % 64) 3).1, (Enc.fl (n' % 64) 3).2) := by simpa using HST.out
            have h1 := HEO.out
            have h2 := HEF.out
            rw [hstep] at h1 h2
            have HH1 := hid h1
            have HH2 := hid h2
            have HBT := hid hbt
            clear hstep h1 h2 HST hn6 hk5' hbt
            generalize Enc.Lc (n' / 64) = x at *
            go_wp2_with (first
              | (go_at_call 19; refine (hL _).mono ?_; rintro e w3 ⟨rfl, rfl⟩)
              | (at_builtin; refine wpList_buf w.heap.size _ rfl _ _ rfl u3 o' [x] rfl (HBUF2.out.alloc _) _ 1 1 rfl rfl (one_src wr x _ rfl) (by simp; omega) ?_; intro v' w1 hr1 hb1))
            go_roundw
            case rel =>
              refine ⟨o' ++ [x], n' % 64, 3, 6, by omega, by simp <;> omega, ?_, HH2.out, by simp; omega, ?_, rfl, by decide, hr1, (HBE2.out.alloc HBUF2.out.2 _).trans hb1⟩
              · rw [List.append_assoc]; exact HH1.out
              · rw [HBT.out]
            case measure => simp [intOf]
        · have e2 : decide ((6 : Int) ≤ k5') = false := decide_eq_false (by omega)
          have hst := Enc.fl_stop (n := n') (m := m') (by omega)
          have h1 := HEO.out
          have h2 := HEF.out
          rw [hst] at h1 h2
          have hrg := Enc.fl_rng M N M (Nat.le_refl _) HN3.out
          rw [← h2] at hrg
          have h3' := HE3.out
          rw [← h2, ← List.append_assoc, ← h1, List.append_nil] at h3'
          have hl1 := congrArg List.length h1
          simp only [List.append_nil, List.length_append] at hl1
          have HF := hid (And.intro hn6 (And.intro h3' (And.intro hrg hl1)))
          clear hst h1 h2 hrg h3' hl1 hn6
          go_wp2
          go_roundw
          case rel =>
            have hm := HM.out.1
            have ho4 := HM.out.2.2
            have hF := HF.out
            refine ⟨i + 1, n', m', k5', o', by omega, by omega, HF.out.1, ?_, by omega, HF.out.2.1, rfl, rfl, hk5', by go_num, HBUF2.out, HBE2.out⟩
            have hr2 : 3 * (Enc.fl N M).1.length + m' = M := HF.out.2.2.1.2.2
            have hl2 := HF.out.2.2.2
            have hmd := HMD.out
            omega
          case measure => simp [intOf]; omega
    · have e1 : decide ((i : Int) < bs.length) = false := decide_eq_false (by omega)
      obtain rfl : i = bs.length := by omega
      have heq := HEQ.out
      rw [List.drop_length] at heq
      have hfin : o ++ Enc.fin n m = Enc.enc bs := heq
      have hk5 := HK5.out
      have hm3 : m = 0 ∨ m = 1 ∨ m = 2 := by omega
      have HFIN := hid hfin
      clear heq hfin HEQ HK5 hk5a hk5b
      have HO4 := hid ho4
      clear ho4 hm hi
      rcases hm3 with rfl | rfl | rfl
      · obtain rfl : k5 = 0 := by omega
        clear hk5
        have hf0 : Enc.fin n 0 = [] := rfl
        have hfe := HFIN.out
        rw [hf0, List.append_nil] at hfe
        have HFE := hid hfe
        clear hfe hf0 HFIN hn4
        go_wp2_with fail
        go_loopw [3] (fun v3 wz => ∃ o' : List UInt8, o' ++ List.replicate ((4 - o'.length % 4) % 4) 61 = Enc.enc bs ∧ o'.length + (4 - o'.length % 4) % 4 ≤ 2 * bs.length + 4 ∧ Buf w.heap.size wz v3 o' ∧ Below w.heap.size w wz) (fun v3 _ => (4 - slLen v3 % 4) % 4)
        case atStart => exact ⟨o, by rw [HO4.out]; simpa using HFE.out, by omega, HBUF.out, HBE.out⟩
        case round =>
          obtain ⟨o', hpad, hol, hbuf2, hbel2⟩ := hrel
          obtain ⟨A', c', rfl, hcap⟩ := hbuf2.slice
          have HPAD := hid hpad
          have HBUF2 := hid hbuf2
          have HBE2 := hid hbel2
          have hol2 : o'.length ≤ 2 * bs.length + 4 := by omega
          have HOL := hid hol
          clear hpad hbuf2 hbel2 hcap hol
          by_cases hz : o'.length % 4 = 0
          · have e3 : decide ((0 : Int) < (o'.length : Int) % 4) = false := decide_eq_false (by omega)
            have hfe : o' = Enc.enc bs := by
              have := HPAD.out
              rw [hz] at this
              simpa using this
            have cv := HBUF2.out.conv
            have HFE2 := hid hfe
            clear hz hfe
            go_wp2
            go_ret
            exact ⟨by rw [HFE2.out]; rfl, HBE2.out⟩
          · have e3 : decide ((0 : Int) < (o'.length : Int) % 4) = true := decide_eq_true (by omega)
            have HZ := hid hz
            clear hz
            go_wp2_with ((at_builtin; refine wpList_buf w.heap.size _ rfl _ _ rfl _ o' [61] rfl (HBUF2.out.alloc _) _ 1 1 rfl rfl (one_src _ 61 61 rfl) (by simp; omega) ?_; intro v' w1 hr1 hb1; have HR2 := hid hr1; clear hr1))
            go_roundw
            case rel =>
              refine ⟨o' ++ [61], ?_, ?_, HR2.out, (HBE2.out.alloc HBUF2.out.2 _).trans hb1⟩
              · have hz := HZ.out
                rw [← HPAD.out, List.append_assoc, List.length_append, List.length_singleton]
                congr 1
                have : (4 - o'.length % 4) % 4 = (4 - (o'.length + 1) % 4) % 4 + 1 := by omega
                rw [this, List.replicate_succ]
                rfl
              · have hz := HZ.out
                have hol := HOL.out
                simp only [List.length_append, List.length_singleton]
                omega
            case measure =>
              have hz := HZ.out
              obtain ⟨A2, c2, rfl, -⟩ := HR2.out.slice
              simp [slLen]
              omega
      · obtain rfl : k5 = 2 := by omega
        clear hk5
        have hn : n < 4 := by simpa using hn4
        have hL : ∀ w', Calls Tryz.prog 19 #[.int .i64 ((n : Int) * 16)] w' fun e w2 => e = .returned (.int .u8 (Enc.Lc (n * 16)).toNat) ∧ w' = w2 := by
          intro w'
          have := rl64_any ((n : Int) * 16) w' (by omega) (by omega)
          rw [show ((n : Int) * 16).toNat = n * 16 by omega] at this
          exact this
        have hfe : o ++ [Enc.Lc (n * 16)] ++ [61, 61] = Enc.enc bs := by rw [← HFIN.out, List.append_assoc]; rfl
        have HFE := hid hfe
        clear hfe HFIN hn4
        generalize Enc.Lc (n * 16) = x at *
        go_wp2_with (first
          | (go_at_call 19; refine (hL _).mono ?_; rintro e w3 ⟨rfl, rfl⟩)
          | (at_builtin; refine wpList_buf w.heap.size _ rfl _ _ rfl u3 o [x] rfl (HBUF.out.alloc _) _ 1 1 rfl rfl (one_src _ x _ rfl) (by simp; omega) ?_; intro v' w1 hr1 hb1; have HR1 := hid hr1; have HB1 := hid ((HBE.out.alloc HBUF.out.2 _).trans hb1); clear hr1 hb1))
        go_loopw [3] (fun v3 wz => ∃ o' : List UInt8, o' ++ List.replicate ((4 - o'.length % 4) % 4) 61 = Enc.enc bs ∧ o'.length + (4 - o'.length % 4) % 4 ≤ 2 * bs.length + 4 ∧ Buf w.heap.size wz v3 o' ∧ Below w.heap.size w wz) (fun v3 _ => (4 - slLen v3 % 4) % 4)
        case atStart => exact ⟨o ++ [x], by rw [List.length_append, List.length_singleton, show (4 - (o.length + 1) % 4) % 4 = 2 by have := HO4.out; omega]; exact HFE.out, by simp; omega, HR1.out, HB1.out⟩
        case round =>
          obtain ⟨o', hpad, hol, hbuf2, hbel2⟩ := hrel
          obtain ⟨A', c', rfl, hcap⟩ := hbuf2.slice
          have HPAD := hid hpad
          have HBUF2 := hid hbuf2
          have HBE2 := hid hbel2
          have hol2 : o'.length ≤ 2 * bs.length + 4 := by omega
          have HOL := hid hol
          clear hpad hbuf2 hbel2 hcap hol
          by_cases hz : o'.length % 4 = 0
          · have e3 : decide ((0 : Int) < (o'.length : Int) % 4) = false := decide_eq_false (by omega)
            have hfe : o' = Enc.enc bs := by
              have := HPAD.out
              rw [hz] at this
              simpa using this
            have cv := HBUF2.out.conv
            have HFE2 := hid hfe
            clear hz hfe
            go_wp2
            go_ret
            exact ⟨by rw [HFE2.out]; rfl, HBE2.out⟩
          · have e3 : decide ((0 : Int) < (o'.length : Int) % 4) = true := decide_eq_true (by omega)
            have HZ := hid hz
            clear hz
            go_wp2_with ((at_builtin; refine wpList_buf w.heap.size _ rfl _ _ rfl _ o' [61] rfl (HBUF2.out.alloc _) _ 1 1 rfl rfl (one_src _ 61 61 rfl) (by simp; omega) ?_; intro v' w1 hr1 hb1; have HR2 := hid hr1; clear hr1))
            go_roundw
            case rel =>
              refine ⟨o' ++ [61], ?_, ?_, HR2.out, (HBE2.out.alloc HBUF2.out.2 _).trans hb1⟩
              · have hz := HZ.out
                rw [← HPAD.out, List.append_assoc, List.length_append, List.length_singleton]
                congr 1
                have : (4 - o'.length % 4) % 4 = (4 - (o'.length + 1) % 4) % 4 + 1 := by omega
                rw [this, List.replicate_succ]
                rfl
              · have hz := HZ.out
                have hol := HOL.out
                simp only [List.length_append, List.length_singleton]
                omega
            case measure =>
              have hz := HZ.out
              obtain ⟨A2, c2, rfl, -⟩ := HR2.out.slice
              simp [slLen]
              omega
      · obtain rfl : k5 = 4 := by omega
        clear hk5
        have hn : n < 16 := by simpa using hn4
        have hL : ∀ w', Calls Tryz.prog 19 #[.int .i64 ((n : Int) * 4)] w' fun e w2 => e = .returned (.int .u8 (Enc.Lc (n * 4)).toNat) ∧ w' = w2 := by
          intro w'
          have := rl64_any ((n : Int) * 4) w' (by omega) (by omega)
          rw [show ((n : Int) * 4).toNat = n * 4 by omega] at this
          exact this
        have hfe : o ++ [Enc.Lc (n * 4)] ++ [61] = Enc.enc bs := by rw [← HFIN.out, List.append_assoc]; rfl
        have HFE := hid hfe
        clear hfe HFIN hn4
        generalize Enc.Lc (n * 4) = x at *
        go_wp2_with (first
          | (go_at_call 19; refine (hL _).mono ?_; rintro e w3 ⟨rfl, rfl⟩)
          | (at_builtin; refine wpList_buf w.heap.size _ rfl _ _ rfl u3 o [x] rfl (HBUF.out.alloc _) _ 1 1 rfl rfl (one_src _ x _ rfl) (by simp; omega) ?_; intro v' w1 hr1 hb1; have HR1 := hid hr1; have HB1 := hid ((HBE.out.alloc HBUF.out.2 _).trans hb1); clear hr1 hb1))
        go_loopw [3] (fun v3 wz => ∃ o' : List UInt8, o' ++ List.replicate ((4 - o'.length % 4) % 4) 61 = Enc.enc bs ∧ o'.length + (4 - o'.length % 4) % 4 ≤ 2 * bs.length + 4 ∧ Buf w.heap.size wz v3 o' ∧ Below w.heap.size w wz) (fun v3 _ => (4 - slLen v3 % 4) % 4)
        case atStart => exact ⟨o ++ [x], by rw [List.length_append, List.length_singleton, show (4 - (o.length + 1) % 4) % 4 = 1 by have := HO4.out; omega]; exact HFE.out, by simp; omega, HR1.out, HB1.out⟩
        case round =>
          obtain ⟨o', hpad, hol, hbuf2, hbel2⟩ := hrel
          obtain ⟨A', c', rfl, hcap⟩ := hbuf2.slice
          have HPAD := hid hpad
          have HBUF2 := hid hbuf2
          have HBE2 := hid hbel2
          have hol2 : o'.length ≤ 2 * bs.length + 4 := by omega
          have HOL := hid hol
          clear hpad hbuf2 hbel2 hcap hol
          by_cases hz : o'.length % 4 = 0
          · have e3 : decide ((0 : Int) < (o'.length : Int) % 4) = false := decide_eq_false (by omega)
            have hfe : o' = Enc.enc bs := by
              have := HPAD.out
              rw [hz] at this
              simpa using this
            have cv := HBUF2.out.conv
            have HFE2 := hid hfe
            clear hz hfe
            go_wp2
            go_ret
            exact ⟨by rw [HFE2.out]; rfl, HBE2.out⟩
          · have e3 : decide ((0 : Int) < (o'.length : Int) % 4) = true := decide_eq_true (by omega)
            have HZ := hid hz
            clear hz
            go_wp2_with ((at_builtin; refine wpList_buf w.heap.size _ rfl _ _ rfl _ o' [61] rfl (HBUF2.out.alloc _) _ 1 1 rfl rfl (one_src _ 61 61 rfl) (by simp; omega) ?_; intro v' w1 hr1 hb1; have HR2 := hid hr1; clear hr1))
            go_roundw
            case rel =>
              refine ⟨o' ++ [61], ?_, ?_, HR2.out, (HBE2.out.alloc HBUF2.out.2 _).trans hb1⟩
              · have hz := HZ.out
                rw [← HPAD.out, List.append_assoc, List.length_append, List.length_singleton]
                congr 1
                have : (4 - o'.length % 4) % 4 = (4 - (o'.length + 1) % 4) % 4 + 1 := by omega
                rw [this, List.replicate_succ]
                rfl
              · have hz := HZ.out
                have hol := HOL.out
                simp only [List.length_append, List.length_singleton]
                omega
            case measure =>
              have hz := HZ.out
              obtain ⟨A2, c2, rfl, -⟩ := HR2.out.slice
              simp [slLen]
              omega

end Go.Proofs.YtdbggicpcbecdaaGreatDoor
