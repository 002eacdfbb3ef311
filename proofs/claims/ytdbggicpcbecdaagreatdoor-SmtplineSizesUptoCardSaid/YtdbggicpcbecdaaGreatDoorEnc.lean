/-
  The program's Encode64.
-/
import Derived.Test.YtdbggicpcbecdaaGreatDoorNumb
import Derived.Test.YtdbggicpcbecdaaGreatDoorWByte
import Derived.Test.YtdbggicpcbecdaaGreatDoorBuf
import Derived.Test.YtdbggicpcbecdaaGreatDoorEncLaw
import Derived.Laws.CopyOwn
import Derived.Test.YtdbggicpcbecdaaGreatDoorBits
namespace Go.Proofs.YtdbggicpcbecdaaGreatDoor
open Go.RowKit Own Dec
set_option linter.unusedVariables false
set_option linter.unusedSimpArgs false
set_option maxRecDepth 100000

theorem ownsRow_keep {w w' : World} {B : Nat} {e : TypeId} {z : Nat} {v : Value} {n : Nat} {xs : List Value} (h : w.ownsRow B e z v n xs) (hb : Below w.heap.size w w') : w'.ownsRow B e z v n xs := by
  refine ⟨h.1, ?_⟩
  rcases h.2 with hn | ⟨g, cap, cur, rfl, hb2, hg, rest⟩
  · exact .inl hn
  · exact .inr ⟨g, cap, cur, rfl, hb2, (hb.block g (lt_of_block hg)).trans hg, rest⟩
theorem Bld.keep {B b : Nat} {l : List UInt8} {w w' : World} (h : Bld B b l w) (hb : Below w.heap.size w w') : Bld B b l w' := by
  refine ⟨?_, Nat.le_trans h.2 hb.size⟩
  rcases h.1 with ⟨h1, v, h2, h3, h4⟩ | ⟨h1, v, h2, h3, h4⟩
  · exact .inl ⟨h1, v, (hb.block b (lt_of_block h2)).trans h2, ownsRow_keep h3 hb, h4⟩
  · exact .inr ⟨h1, v, (hb.block b (lt_of_block h2)).trans h2, ownsRow_keep h3 hb, h4⟩
theorem Bld.alloc {B b : Nat} {l : List UInt8} {w : World} (h : Bld B b l w) (o : Obj) : Bld B b l (w.alloc o) := h.keep ((Below.refl _ w).alloc (Nat.le_refl _) o)
theorem Bld.fresh (w : World) : Bld w.heap.size w.heap.size [] (w.alloc (.cells #[.pointer none, .slice none 0 0] 81 (0, 0))) := ⟨Lib.fresh_isBuilder _ _ w, by simp⟩

namespace Enc
/-- The k-th sign of four. -/
def dv : Nat → Nat | 0 => 262144 | 1 => 4096 | 2 => 64 | _ => 1
def sg (v n k : Nat) : UInt8 := if n < k then 61 else Lc (v / dv k % 64)
theorem sg_end {v n k : Nat} (h : n < k) : sg v n k = 61 := if_pos h
theorem sg0 {v n : Nat} : sg v n 0 = Lc (v / 262144 % 64) := if_neg (by omega)
theorem sg1 {v n : Nat} (h : 1 ≤ n) : sg v n 1 = Lc (v / 4096 % 64) := if_neg (by omega)
theorem sg2 {v n : Nat} (h : 2 ≤ n) : sg v n 2 = Lc (v / 64 % 64) := if_neg (by omega)
theorem sg3 {v n : Nat} (h : 3 ≤ n) : sg v n 3 = Lc (v % 64) := (if_neg (by omega)).trans (by rw [show dv 3 = 1 from rfl, Nat.div_one])
end Enc

theorem letters_at (n : Nat) (h : n < 64) : ∀ hh, ((str Enc.L64)[n]'hh) = Enc.Lc n := by
  intro hh
  have h2 : n < Enc.L64.length := h
  have : (str Enc.L64)[n]'hh = Enc.L64[n]'h2 := rfl
  rw [this]
  simp [Enc.Lc, List.getD, h2]

theorem wbyte_at (B b : Nat) (l : List UInt8) (c : UInt8) (x : Int) (hx : x = (c.toNat : Int)) (w : World) (h : Bld B b l w) (hl : l.length ≤ 70368744177664) :
    Calls Tryz.prog 45 #[.pointer (some ⟨b, 0, none⟩), .int .u8 x] w fun e w' => e = .returned .nilIface ∧ Bld B b (l ++ [c]) w' ∧ Below B w w' := by
  subst hx
  exact wbyte_any B b l c w h hl

def slLen : Value → Nat | .slice _ n _ => n | _ => 0

/-- The first three bytes, and what is written of them. -/
theorem quad (R : List UInt8) (h : R ≠ []) : ∃ (cs r : List UInt8) (x0 x1 x2 : Nat), R = cs ++ r ∧ 1 ≤ cs.length ∧ cs.length ≤ 3 ∧ cs.length = Nat.min R.length 3 ∧ splice [Value.int .u8 0, .int .u8 0, .int .u8 0] 0 (bv cs) = [.int .u8 x0, .int .u8 x1, .int .u8 x2] ∧ x0 < 256 ∧ x1 < 256 ∧ x2 < 256 ∧ Enc.enc R = [Enc.sg (x0 * 65536 + x1 * 256 + x2) cs.length 0, Enc.sg (x0 * 65536 + x1 * 256 + x2) cs.length 1, Enc.sg (x0 * 65536 + x1 * 256 + x2) cs.length 2, Enc.sg (x0 * 65536 + x1 * 256 + x2) cs.length 3] ++ Enc.enc r := by
  rcases R with _ | ⟨a, _ | ⟨b, _ | ⟨c, r⟩⟩⟩
  · exact absurd rfl h
  · have := a.toNat_lt
    refine ⟨[a], [], a.toNat, 0, 0, rfl, by simp, by simp, rfl, rfl, by omega, by omega, by omega, ?_⟩
    show _ = [Enc.sg _ 1 0, Enc.sg _ 1 1, Enc.sg _ 1 2, Enc.sg _ 1 3] ++ Enc.enc []
    rw [Enc.enc_one, Enc.enc_nil, Enc.sg0, Enc.sg1 (by omega), Enc.sg_end (by omega), Enc.sg_end (by omega), List.append_nil, show a.toNat * 65536 + 0 * 256 + 0 = a.toNat * 65536 by omega, show a.toNat * 65536 / 262144 % 64 = a.toNat * 65536 / 262144 by omega]
  · have := a.toNat_lt
    have := b.toNat_lt
    refine ⟨[a, b], [], a.toNat, b.toNat, 0, rfl, by simp, by simp, rfl, rfl, by omega, by omega, by omega, ?_⟩
    show _ = [Enc.sg _ 2 0, Enc.sg _ 2 1, Enc.sg _ 2 2, Enc.sg _ 2 3] ++ Enc.enc []
    rw [Enc.enc_two, Enc.enc_nil, Enc.sg0, Enc.sg1 (by omega), Enc.sg2 (by omega), Enc.sg_end (by omega), List.append_nil, Nat.add_zero, show (a.toNat * 65536 + b.toNat * 256) / 262144 % 64 = (a.toNat * 65536 + b.toNat * 256) / 262144 by omega]
  · have := a.toNat_lt
    have := b.toNat_lt
    have := c.toNat_lt
    refine ⟨[a, b, c], r, a.toNat, b.toNat, c.toNat, rfl, by simp, by simp, ?_, rfl, by omega, by omega, by omega, ?_⟩
    · show 3 = Nat.min (r.length + 1 + 1 + 1) 3
      exact (Nat.min_eq_right (by omega)).symm
    show _ = [Enc.sg _ 3 0, Enc.sg _ 3 1, Enc.sg _ 3 2, Enc.sg _ 3 3] ++ Enc.enc r
    rw [Enc.enc_three, Enc.sg0, Enc.sg1 (by omega), Enc.sg2 (by omega), Enc.sg3 (by omega), show (a.toNat * 65536 + b.toNat * 256 + c.toNat) / 262144 % 64 = (a.toNat * 65536 + b.toNat * 256 + c.toNat) / 262144 by omega]
theorem src_head {w : World} {p : Addr} {cs r : List UInt8} (h : Src w (some p) (bv (cs ++ r))) : ∀ j v, (bv cs)[j]? = some v → w.cell? (p.add j) = some v := fun j v hj => h.2 p rfl j v (by rw [bv_append, List.getElem?_append_left (List.getElem?_eq_some_iff.1 hj).1]; exact hj)

set_option maxHeartbeats 2000000 in
theorem encode_any (A : Option Addr) (nn cc : Nat) (bs : List UInt8) (w : World) (hs : Src w A (bv bs)) (hn : nn = bs.length) (hcap : nn ≤ cc) (hl : bs.length ≤ 17592186044416) :
    Calls Tryz.prog 33 #[.slice A nn cc] w fun e w' => e = .returned (.string (str (Enc.enc bs))) ∧ Below w.heap.size w w' := by
  subst hn
  have HB0 := hid (Bld.fresh w)
  have L0 := hid ((Below.refl w.heap.size w).alloc (Nat.le_refl _) (.cells #[.pointer none, .slice none 0 0] 81 (0, 0)))
  have HS := hid hs
  clear hs
  go_enter Tryz.func33, Tryz.ntmps33
  go_wp2_with fail
  go_loopw [0] (fun v0 wr => ∃ (A1 : Option Addr) (c1 : Nat) (R o : List UInt8), v0 = .slice A1 R.length c1 ∧ R.length ≤ c1 ∧ Src w A1 (bv R) ∧ o ++ Enc.enc R = Enc.enc bs ∧ o.length + 4 * R.length ≤ 4 * bs.length ∧ Bld w.heap.size w.heap.size o wr ∧ Below w.heap.size w wr) (fun v0 _ => slLen v0)
  case atStart => exact ⟨A, cc, bs, [], rfl, hcap, HS.out, rfl, by simp, HB0.out, L0.out⟩
  case round =>
    obtain ⟨A1, c1, R, o, rfl, hRc, hsr, heq, hol, hbl, hbel⟩ := hrel
    have HEQ := hid heq
    have HBL := hid hbl
    have HBE := hid hbel
    have HSR := hid hsr
    clear heq hbl hbel hsr
    by_cases hR : R = []
    · subst hR
      have hO : o = Enc.enc bs := by have := HEQ.out; rwa [Enc.enc_nil, List.append_nil] at this
      clear hol hRc
      rw [List.length_nil]
      go_wp2_with (first | (go_at_call 46; refine (bstring_any w.heap.size w.heap.size o _ HBL.out).mono ?_; rintro e w3 ⟨rfl, hb3⟩))
      go_ret
      exact ⟨by rw [← hO]; rfl, HBE.out.trans hb3⟩
    obtain ⟨cs, r, x0, x1, x2, rfl, hc1, hc3, hcm, hsp, hx0, hx1, hx2, hen⟩ := quad R hR
    obtain ⟨n, hn⟩ : ∃ n, n = cs.length := ⟨_, rfl⟩
    obtain ⟨N, hN⟩ : ∃ N, N = (cs ++ r).length := ⟨_, rfl⟩
    have hNr : N = n + r.length := by rw [hN, hn, List.length_append]
    rw [← hN] at hRc hol hcm ⊢
    rw [← hn] at hc1 hc3 hcm hen
    have e1 : decide (0 < (N : Int)) = true := decide_eq_true (by omega)
    obtain ⟨p, rfl⟩ : ∃ p, A1 = some p := by
      cases A1 with
      | none => have := HSR.out.1 rfl; simp [bv] at this; exact absurd (by simp [this]) hR
      | some p => exact ⟨p, rfl⟩
    have HH := hid (src_head ((HSR.out.below HBE.out).below ((Below.refl _ wr).alloc (Nat.le_refl _) (.cells #[.int .u8 0, .int .u8 0, .int .u8 0] 82 (0, 0)))))
    have HEN := hid hen
    have HN := hid hN
    have Hn := hid hn
    have HSP := hid hsp
    have hbl : (bv cs).length = n := by rw [bv_len, hn]
    have HBV := hid hbl
    have HONE := hid (bv_one cs)
    clear hen hN hn hsp hbl
    generalize bv cs = V at *
    have hcm2 := hid hcm
    clear hcm
    go_upto_region 7 with (first | (refine wpList_copy_splice rfl (.tmp 11) (.tmp 12) 33 33 rfl 5 Tryz.underlying33 (by kernel_rfl) _ _ _ _ _ _ rfl rfl wr.heap.size 0 [.int .u8 0, .int .u8 0, .int .u8 0] 82 (heap_alloc_new wr _) V (HBV.out.trans hcm2.out) (fun _ => ⟨rfl, _, rfl, HH.out⟩) (by rw [HBV.out]; simp; omega) HONE.out wr.heap.size _ (Below.refl _ _) (Nat.le_refl _) ?_; intro w2 HG2 hB2; rw [HSP.out] at HG2; have hc0 := cells_at HG2.out 0; have hc1 := cells_at HG2.out 1; have hc2 := cells_at HG2.out 2; simp at hc0 hc1 hc2; have hBVV := HBV.out))
    rw [Bit.join3 x0 x1 x2 hx0 hx1 hx2]
    have hv24 : x0 * 65536 + x1 * 256 + x2 < 16777216 := by omega
    generalize x0 * 65536 + x1 * 256 + x2 = v at *
    have hBW : Below wr.heap.size wr w2 := ((Below.refl _ wr).alloc (Nat.le_refl _) _).trans hB2
    have hsr2 : Src w (if c1 = n then some p else some (p.add n)) (bv r) := by
      have h1 := (HSR.out.drop n)
      have h2 : (bv (cs ++ r)).drop n = bv r := by rw [← bv_drop, Hn.out, List.drop_left]
      rw [h2] at h1
      split
      · have : r = [] := by apply List.eq_nil_of_length_eq_zero; omega
        subst this
        exact Src.empty
      · exact h1
    generalize (if c1 = n then some p else some (p.add n)) = A2 at *
    have HS2 := hid hsr2
    have hbd2 := HBL.out.keep hBW
    have hbe2 := below_then HBE.out hBW
    have HBD2 := hid hbd2
    have HBE2 := hid hbe2
    have HBW := hid hBW
    obtain ⟨S4, hS4⟩ : ∃ S4, S4 = [Enc.sg v n 0, Enc.sg v n 1, Enc.sg v n 2, Enc.sg v n 3] := ⟨_, rfl⟩
    have hen2 := HEN.out
    rw [← hS4] at hen2
    have HEN2 := hid hen2
    have HS4 := hid hS4
    have HB2 := hid hB2
    have HL2 := hid (And.intro hol (And.intro hRc hNr))
    clear hsr2 hbd2 hbe2 hBW hen2 hS4 hB2 HEN hol hRc hNr hc1 hc2 hc0 HSP HONE HH
    go_wp2_with fail
    go_loopw [30] (fun v30 wz => ∃ k : Nat, k ≤ 4 ∧ v30 = .int .i64 k ∧ Bld w.heap.size w.heap.size (o ++ S4.take k) wz ∧ Below w.heap.size w wz) (fun v30 _ => 4 - (intOf v30).toNat)
    case atStart => exact ⟨0, by omega, rfl, by rw [List.take_zero, List.append_nil]; exact HBD2.out, HBE2.out⟩
    case round =>
      obtain ⟨k, hk4, rfl, hbdz, hbz⟩ := hrel
      have hlo : (o ++ S4.take k).length ≤ 70368744177664 := by
        have h1 := HL2.out
        have : (S4.take k).length ≤ 4 := by rw [HS4.out]; simp; omega
        rw [List.length_append]
        have h3 : n + r.length = N := h1.2.2.symm
        omega
      have HBD := hid hbdz
      have HBZ := hid hbz
      clear hbdz hbz
      obtain ⟨O, hO⟩ : ∃ O, O = o ++ S4.take k := ⟨_, rfl⟩
      rw [← hO] at HBD hlo
      have HO := hid hO.symm
      clear hO
      have hk : k = 0 ∨ k = 1 ∨ k = 2 ∨ k = 3 ∨ k = 4 := by omega
      rcases hk with rfl | rfl | rfl | rfl | rfl
      · have hnk : ¬ n < 0 := by omega
        have e3 : decide ((n : Int) < 0) = false := decide_eq_false (by omega)
        have hbt := Bit.low63 (v / 262144) (by omega)
        obtain ⟨m, hm⟩ : ∃ m, m = (v / 262144) % 64 := ⟨_, rfl⟩
        have hm64 : m < 64 := by omega
        have hsg : Enc.sg v n 0 = Enc.Lc m := by rw [hm]; exact Enc.sg0
        rw [← hm] at hbt
        rw [show ((v / 262144 : Nat) : Int) = (v : Int) / 262144 from by omega] at hbt
        have hix := letters_at m hm64
        clear hm
        have HSG := hid hsg
        clear hsg hnk
        go_wp2_with (first | (go_at_call 45; refine (wbyte_at w.heap.size w.heap.size O (Enc.Lc m) _ (by rw [← hix]; rfl) _ HBD.out (by omega)).mono ?_; rintro e w3 ⟨rfl, hb3, hbl3⟩))
        go_roundw
        case rel => exact ⟨1, by omega, rfl, by rw [show S4.take 1 = S4.take 0 ++ [Enc.sg v n 0] from by rw [HS4.out]; rfl, ← List.append_assoc, HSG.out, HO.out]; exact hb3, HBZ.out.trans hbl3⟩
        case measure => simp [intOf]
      · by_cases hnk : n < 1
        · have e3 : decide ((n : Int) < 1) = true := decide_eq_true (by omega)
          have hsg : Enc.sg v n 1 = 61 := Enc.sg_end hnk
          have HSG := hid hsg
          clear hsg hnk
          go_wp2_with (first | (go_at_call 45; refine (wbyte_at w.heap.size w.heap.size O 61 61 rfl _ HBD.out (by omega)).mono ?_; rintro e w3 ⟨rfl, hb3, hbl3⟩))
          go_roundw
          case rel => exact ⟨2, by omega, rfl, by rw [show S4.take 2 = S4.take 1 ++ [Enc.sg v n 1] from by rw [HS4.out]; rfl, ← List.append_assoc, HSG.out, HO.out]; exact hb3, HBZ.out.trans hbl3⟩
          case measure => simp [intOf]
        · have e3 : decide ((n : Int) < 1) = false := decide_eq_false (by omega)
          have hbt := Bit.low63 (v / 4096) (by omega)
          obtain ⟨m, hm⟩ : ∃ m, m = (v / 4096) % 64 := ⟨_, rfl⟩
          have hm64 : m < 64 := by omega
          have hsg : Enc.sg v n 1 = Enc.Lc m := by rw [hm]; exact Enc.sg1 (by omega)
          rw [← hm] at hbt
          rw [show ((v / 4096 : Nat) : Int) = (v : Int) / 4096 from by omega] at hbt
          have hix := letters_at m hm64
          clear hm
          have HSG := hid hsg
          clear hsg hnk
          go_wp2_with (first | (go_at_call 45; refine (wbyte_at w.heap.size w.heap.size O (Enc.Lc m) _ (by rw [← hix]; rfl) _ HBD.out (by omega)).mono ?_; rintro e w3 ⟨rfl, hb3, hbl3⟩))
          go_roundw
          case rel => exact ⟨2, by omega, rfl, by rw [show S4.take 2 = S4.take 1 ++ [Enc.sg v n 1] from by rw [HS4.out]; rfl, ← List.append_assoc, HSG.out, HO.out]; exact hb3, HBZ.out.trans hbl3⟩
          case measure => simp [intOf]
      · by_cases hnk : n < 2
        · have e3 : decide ((n : Int) < 2) = true := decide_eq_true (by omega)
          have hsg : Enc.sg v n 2 = 61 := Enc.sg_end hnk
          have HSG := hid hsg
          clear hsg hnk
          go_wp2_with (first | (go_at_call 45; refine (wbyte_at w.heap.size w.heap.size O 61 61 rfl _ HBD.out (by omega)).mono ?_; rintro e w3 ⟨rfl, hb3, hbl3⟩))
          go_roundw
          case rel => exact ⟨3, by omega, rfl, by rw [show S4.take 3 = S4.take 2 ++ [Enc.sg v n 2] from by rw [HS4.out]; rfl, ← List.append_assoc, HSG.out, HO.out]; exact hb3, HBZ.out.trans hbl3⟩
          case measure => simp [intOf]
        · have e3 : decide ((n : Int) < 2) = false := decide_eq_false (by omega)
          have hbt := Bit.low63 (v / 64) (by omega)
          obtain ⟨m, hm⟩ : ∃ m, m = (v / 64) % 64 := ⟨_, rfl⟩
          have hm64 : m < 64 := by omega
          have hsg : Enc.sg v n 2 = Enc.Lc m := by rw [hm]; exact Enc.sg2 (by omega)
          rw [← hm] at hbt
          rw [show ((v / 64 : Nat) : Int) = (v : Int) / 64 from by omega] at hbt
          have hix := letters_at m hm64
          clear hm
          have HSG := hid hsg
          clear hsg hnk
          go_wp2_with (first | (go_at_call 45; refine (wbyte_at w.heap.size w.heap.size O (Enc.Lc m) _ (by rw [← hix]; rfl) _ HBD.out (by omega)).mono ?_; rintro e w3 ⟨rfl, hb3, hbl3⟩))
          go_roundw
          case rel => exact ⟨3, by omega, rfl, by rw [show S4.take 3 = S4.take 2 ++ [Enc.sg v n 2] from by rw [HS4.out]; rfl, ← List.append_assoc, HSG.out, HO.out]; exact hb3, HBZ.out.trans hbl3⟩
          case measure => simp [intOf]
      · by_cases hnk : n < 3
        · have e3 : decide ((n : Int) < 3) = true := decide_eq_true (by omega)
          have hsg : Enc.sg v n 3 = 61 := Enc.sg_end hnk
          have HSG := hid hsg
          clear hsg hnk
          go_wp2_with (first | (go_at_call 45; refine (wbyte_at w.heap.size w.heap.size O 61 61 rfl _ HBD.out (by omega)).mono ?_; rintro e w3 ⟨rfl, hb3, hbl3⟩))
          go_roundw
          case rel => exact ⟨4, by omega, rfl, by rw [show S4.take 4 = S4.take 3 ++ [Enc.sg v n 3] from by rw [HS4.out]; rfl, ← List.append_assoc, HSG.out, HO.out]; exact hb3, HBZ.out.trans hbl3⟩
          case measure => simp [intOf]
        · have e3 : decide ((n : Int) < 3) = false := decide_eq_false (by omega)
          have hbt := Bit.low63 (v) (by omega)
          obtain ⟨m, hm⟩ : ∃ m, m = (v) % 64 := ⟨_, rfl⟩
          have hm64 : m < 64 := by omega
          have hsg : Enc.sg v n 3 = Enc.Lc m := by rw [hm]; exact Enc.sg3 (by omega)
          rw [← hm] at hbt
          have hix := letters_at m hm64
          clear hm
          have HSG := hid hsg
          clear hsg hnk
          go_wp2_with (first | (go_at_call 45; refine (wbyte_at w.heap.size w.heap.size O (Enc.Lc m) _ (by rw [← hix]; rfl) _ HBD.out (by omega)).mono ?_; rintro e w3 ⟨rfl, hb3, hbl3⟩))
          go_roundw
          case rel => exact ⟨4, by omega, rfl, by rw [show S4.take 4 = S4.take 3 ++ [Enc.sg v n 3] from by rw [HS4.out]; rfl, ← List.append_assoc, HSG.out, HO.out]; exact hb3, HBZ.out.trans hbl3⟩
          case measure => simp [intOf]
      · go_wp2
        go_roundw
        case rel =>
          refine ⟨_, _, r, o ++ S4, rfl, ?_, HS2.out, ?_, ?_, ?_, HBZ.out⟩
          · have := HL2.out; omega
          · rw [List.append_assoc, ← HEN2.out]; exact HEQ.out
          · have := HL2.out; rw [List.length_append, HS4.out]; simp; omega
          · have := HBD.out
            rw [← HO.out, HS4.out] at this
            rw [HS4.out]
            exact this
        case measure => have := HL2.out; simp [slLen]; omega

end Go.Proofs.YtdbggicpcbecdaaGreatDoor
