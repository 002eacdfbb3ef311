/-
  CodecWrites walked.
-/
import Derived.Test.YtnphpinnkmndfaaDoorShown
import Derived.Test.YtnphpinnkmndfaaDoorRDec
import Derived.Test.YtnphpinnkmndfaaDoorRStuff
namespace Go.Proofs.YtnphpinnkmndfaaDoor
open Go.RowKit Own Dec
set_option linter.unusedVariables false
set_option linter.unusedSimpArgs false
set_option maxRecDepth 100000

attribute [local go_sem] str_toList

set_option maxHeartbeats 4000000 in
theorem writes_walk (A : Option Addr) (nn cc : Nat) (bs l : List UInt8) (w : World) (hG : GoodC w) (hs : Src w A (bv bs)) (hn : nn = bs.length) (hcap : nn ≤ cc) (hb : bs.length ≤ 1048576) (hl : l.length ≤ 1048576) :
    Calls Tryd.prog 3 #[.slice A nn cc, .string (str l)] w fun e w' => e = .returned (.bool true) ∧ Below w.heap.size w w' := by
  subst hn
  obtain ⟨D, E, hDE⟩ : ∃ D E, Enc.decV l = (D, E) := ⟨_, _, rfl⟩
  have hdec := fun W => decode_any l W (by omega)
  have hrdec := fun W => rdecode_any l W (by omega)
  rw [hDE] at hdec hrdec
  obtain ⟨X, hX⟩ : ∃ X, Enc.enc bs = X := ⟨_, rfl⟩
  have henc := fun A c W h1 h3 => encode_any A bs.length c bs W h1 rfl h3 (by omega)
  have hrenc := fun W h1 => rencode_any A bs.length cc bs W h1 rfl (by omega)
  rw [hX] at henc hrenc
  have HS := hid hs
  clear hs hDE hX
  go_enter Tryd.func3, Tryd.ntmps3
  go_wp2_with (first
    | (go_at_call 10; refine (shown_any w hG).mono ?_; rintro e w1 ⟨rfl, c1⟩; have b1 := hid c1; have B1 := hid (Buf.lit w1 [] (by simp)); clear c1)
    | (at_builtin; refine wpList_buf w1.heap.size _ rfl _ _ rfl _ [] bs rfl B1.out _ _ _ rfl rfl (HS.out.below (b1.out.alloc b1.out.size _)) (by simp; omega) ?_; intro v2 w2 hr2 hb2; rw [List.nil_append] at hr2; obtain ⟨A2, c2, rfl, hc2, hs2⟩ := hr2.full; have H2 := hid hr2; have b2 := hid ((b1.out.alloc b1.out.size _).trans (hb2.mono b1.out.size)); have HC2 := hid hc2; have HS2 := hid hs2; clear hr2 hb2 hc2 hs2)
    | (go_at_call 11; refine (henc _ _ _ HS2.out HC2.out).mono ?_; rintro e w3 ⟨rfl, c3⟩; have b3 := hid (below_then b2.out c3); have H3 := hid (H2.out.keep c3); clear c3)
    | (go_at_call 12; refine (hdec _).mono ?_; rintro e w4 ⟨v4, rfl, hr4, c4⟩; obtain ⟨A4, k4, rfl, -, -⟩ := hr4.full; have b4 := hid (below_then b3.out c4); have H4 := hid (H3.out.keep c4); have D4 := hid hr4; clear c4 hr4)
    | (go_at_call 13; refine (hrdec _).mono ?_; rintro e w5 ⟨v5, rfl, hr5, c5⟩; obtain ⟨A5, k5, rfl, -, -⟩ := hr5.full; have b5 := hid (below_then b4.out c5); have H5 := hid (H4.out.keep c5); have D5 := hid (D4.out.keep c5); have R5 := hid hr5; clear c5 hr5)
    | (go_at_call 14; refine (hrenc _ (HS.out.below b5.out)).mono ?_; rintro e w6 ⟨rfl, c6⟩; have b6 := hid (below_then b5.out c6); have cv1 := (H5.out.keep c6).conv; have cv2 := conv_src (HS.out.below b6.out) bs.length cc rfl; have cv3 := (D5.out.keep c6).conv; have cv4 := (R5.out.keep c6).conv; clear c6))
  go_ret
  exact ⟨rfl, b6.out⟩

end Go.Proofs.YtnphpinnkmndfaaDoor
