/-
  The head of the codec's laws: the document's examples hold.
-/
import Derived.Test.YtnphpinnkmndfaaDoorDecode
import Derived.Test.YtnphpinnkmndfaaDoorCase
namespace Go.Proofs.YtnphpinnkmndfaaDoor
open Go.RowKit Own Dec
set_option linter.unusedVariables false
set_option linter.unusedSimpArgs false
set_option maxRecDepth 100000

theorem dv1 : Enc.decV [90, 104, 61, 61] = ([], 70) := by
  rw [Enc.decV_some (o := [102]) (by decide), Enc.enc_one, if_neg (by decide)]
theorem dv2 : Enc.decV [90, 103, 61] = ([], 70) := by
  rw [Enc.decV_some (o := []) (by decide), Enc.enc_nil, if_neg (by decide)]
theorem dv3 : Enc.decV [90, 109, 56, 61] = ([102, 111], 0) := by
  rw [Enc.decV_some (o := [102, 111]) (by decide), Enc.enc_two, if_pos (by decide)]
theorem ev1 : Enc.enc [102] = [90, 103, 61, 61] := by rw [Enc.enc_one]; decide
theorem ev2 : Enc.enc [102, 111, 111] = [90, 109, 57, 118] := by rw [Enc.enc_three, Enc.enc_nil]; decide
theorem sv1 : Stf.stuffP [46, 97] = [46, 46, 97, 13, 10, 46, 13, 10] := by rw [Stf.stuffP_last (by decide) (by decide)]; decide
theorem sv2 : Stf.stuffP [] = [46, 13, 10] := Stf.stuffP_nil
theorem qv1 : quoteL [97, 34, 98] = [34, 97, 92, 34, 98, 34] := by decide
theorem qv2 : quoteL [97, 10] = [123, 50, 125, 13, 10, 97, 10] := by
  unfold quoteL
  rw [if_neg (by decide), Text.digs_small (by decide)]
  decide
theorem nv1 : numR [57] 9 = (9, true) := by
  unfold numR
  simp [numF, isDig, Text.digs_small, Text.dg]
theorem nv2 : numR [48, 48, 55] 9 = (0, false) := by
  unfold numR
  simp [numF, isDig, Text.digs_small, Text.dg]
theorem dec1 (w : World) : Calls Tryd.prog 12 #[.string { data := #[90, 104, 61, 61] }] w fun e w' => ∃ v, e = .returned (.tuple #[v, .int .i64 70]) ∧ Below w.heap.size w w' := by
  have := decode_any [90, 104, 61, 61] w (by decide)
  rw [dv1] at this
  exact this.mono fun _ _ ⟨v, he, _, hb⟩ => ⟨v, he, hb⟩
theorem dec2 (w : World) : Calls Tryd.prog 12 #[.string { data := #[90, 103, 61] }] w fun e w' => ∃ v, e = .returned (.tuple #[v, .int .i64 70]) ∧ Below w.heap.size w w' := by
  have := decode_any [90, 103, 61] w (by decide)
  rw [dv2] at this
  exact this.mono fun _ _ ⟨v, he, _, hb⟩ => ⟨v, he, hb⟩
theorem dec3 (w : World) : Calls Tryd.prog 12 #[.string { data := #[90, 109, 56, 61] }] w fun e w' => ∃ A c, e = .returned (.tuple #[.slice A 2 c, .int .i64 0]) ∧ Buf w.heap.size w' (.slice A 2 c) [102, 111] ∧ Below w.heap.size w w' := by
  have := decode_any [90, 109, 56, 61] w (by decide)
  rw [dv3] at this
  refine this.mono fun _ _ ⟨v, he, hbf, hb⟩ => ?_
  obtain ⟨A, c, rfl, -, -⟩ := hbf.full
  exact ⟨A, c, he, hbf, hb⟩
theorem num1 (w : World) (hG : GoodC w) : Calls Tryd.prog 19 #[.string { data := #[57] }, .int .i64 9] w fun e w' => e = .returned (.tuple #[.int .i64 9, .bool true]) ∧ Below w.heap.size w w' := by
  have := number_any [57] 9 w hG
  rw [nv1] at this
  exact this
theorem num2 (w : World) (hG : GoodC w) : Calls Tryd.prog 19 #[.string { data := #[48, 48, 55] }, .int .i64 9] w fun e w' => e = .returned (.tuple #[.int .i64 0, .bool false]) ∧ Below w.heap.size w w' := by
  have := number_any [48, 48, 55] 9 w hG
  rw [nv2] at this
  exact this
theorem uns1 (w : World) : Calls Tryd.prog 16 #[.string { data := #[46] }] w fun e w' => e = .returned (.tuple #[.string (str []), .bool true]) ∧ w = w' := by
  have := unstuff_any [46] w
  rw [show unL [46] = ([], true) from rfl] at this
  exact this
theorem enc1 (w : World) (p : Addr) (c : Nat) (hs : Src w (some p) (bv [102])) (hc : 1 ≤ c) : Calls Tryd.prog 11 #[.slice (some p) 1 c] w fun e w' => e = .returned (.string (str [90, 103, 61, 61])) ∧ Below w.heap.size w w' := by
  have := encode_any (some p) 1 c [102] w hs rfl hc (by decide)
  rw [ev1] at this
  exact this
theorem enc2 (w : World) (p : Addr) (c : Nat) (hs : Src w (some p) (bv [102, 111, 111])) (hc : 3 ≤ c) : Calls Tryd.prog 11 #[.slice (some p) 3 c] w fun e w' => e = .returned (.string (str [90, 109, 57, 118])) ∧ Below w.heap.size w w' := by
  have := encode_any (some p) 3 c [102, 111, 111] w hs rfl hc (by decide)
  rw [ev2] at this
  exact this
theorem stf1 (w : World) (p : Addr) (c : Nat) (hG : GoodC w) (hs : Src w (some p) (bv [46, 97])) (hc : 2 ≤ c) : Calls Tryd.prog 15 #[.slice (some p) 2 c] w fun e w' => ∃ A c, e = .returned (.slice A 8 c) ∧ (convert 22 9 (.slice A 8 c)).run Tryd.prog w' = .ok (.string (str [46, 46, 97, 13, 10, 46, 13, 10])) w' ∧ Below w.heap.size w w' := by
  have := stuff_any (some p) 2 c [46, 97] w hG hs rfl hc (by decide)
  rw [sv1] at this
  refine this.mono fun _ _ ⟨v, he, hbf, hb⟩ => ?_
  obtain ⟨A, c, rfl, -, -⟩ := hbf.full
  exact ⟨A, c, he, hbf.conv, hb⟩
theorem stf2 (w : World)  (hG : GoodC w)  : Calls Tryd.prog 15 #[.slice none 0 0] w fun e w' => ∃ A c, e = .returned (.slice A 3 c) ∧ (convert 22 9 (.slice A 3 c)).run Tryd.prog w' = .ok (.string (str [46, 13, 10])) w' ∧ Below w.heap.size w w' := by
  have := stuff_any none 0 0 [] w hG Src.empty rfl (by decide) (by decide)
  rw [sv2] at this
  refine this.mono fun _ _ ⟨v, he, hbf, hb⟩ => ?_
  obtain ⟨A, c, rfl, -, -⟩ := hbf.full
  exact ⟨A, c, he, hbf.conv, hb⟩
theorem quo1 (w : World) (hG : GoodC w) : Calls Tryd.prog 21 #[.string { data := #[97, 34, 98] }] w fun e w' => e = .returned (.string (str [34, 97, 92, 34, 98, 34])) ∧ Below w.heap.size w w' := by
  have := quote_any [97, 34, 98] w hG (by decide)
  rw [qv1] at this
  exact this
theorem quo2 (w : World) (hG : GoodC w) : Calls Tryd.prog 21 #[.string { data := #[97, 10] }] w fun e w' => e = .returned (.string (str [123, 50, 125, 13, 10, 97, 10])) ∧ Below w.heap.size w w' := by
  have := quote_any [97, 10] w hG (by decide)
  rw [qv2] at this
  exact this
theorem gre1 (w : World) : Calls Tryd.prog 23 #[.string { data := #[97, 90, 49] }] w fun e w' => e = .returned (.string (str [65, 90, 49])) ∧ Below w.heap.size w w' := by
  have := great_any [97, 90, 49] w (by decide)
  rw [show ([97, 90, 49] : List UInt8).map (moveB 97 65) = [65, 90, 49] from by decide] at this
  exact this
theorem sma1 (w : World) : Calls Tryd.prog 25 #[.string { data := #[97, 90, 49] }] w fun e w' => e = .returned (.string (str [97, 122, 49])) ∧ Below w.heap.size w w' := by
  have := small_any [97, 90, 49] w (by decide)
  rw [show ([97, 90, 49] : List UInt8).map (moveB 65 97) = [97, 122, 49] from by decide] at this
  exact this

attribute [local go_sem] str_toList

set_option maxHeartbeats 8000000 in
theorem shown_any (w : World) (hG : GoodC w) :
    Calls Tryd.prog 10 #[] w fun e w' => e = .returned (.bool true) ∧ Below w.heap.size w w' := by
  have kc := fun (W : World) (C : Array Value) (n c : Nat) => Lib.run_convert_bytes_const (P := Tryd.prog) W 22 5 C n c Tryd.underlying22 Tryd.underlying5
  have tok0 : Tok 0 := ⟨⟩
  go_enter Tryd.func10, Tryd.ntmps10
  go_wp2_with (first
    | (go_at_call 12; have t_ : Tok 0 := ‹Tok 0›; refine (dec1 _).mono ?_; rintro e w1 ⟨v1, rfl, c1⟩; have b1 := hid c1; clear t_; clear tok0; have tok1 : Tok 1 := ⟨⟩)
    | (go_at_call 12; have t_ : Tok 1 := ‹Tok 1›; refine (dec2 _).mono ?_; rintro e w2 ⟨v2, rfl, c2⟩; have b2 := hid (below_then b1.out c2); clear t_; clear tok1; have tok2 : Tok 2 := ⟨⟩)
    | (go_at_call 12; have t_ : Tok 2 := ‹Tok 2›; refine (dec3 _).mono ?_; rintro e w3 ⟨A3, k3, rfl, hbf3, c3⟩; have b3 := hid (below_then b2.out c3); have hf3 := hid hbf3; clear hbf3; clear t_; clear tok2; have tok3 : Tok 3 := ⟨⟩)
    | (go_at_call 19; have t_ : Tok 3 := ‹Tok 3›; refine (num1 _ (hG.below b3.out)).mono ?_; rintro e w4 ⟨rfl, c4⟩; have b4 := hid (below_then b3.out c4); have hf4 := hid (hf3.out.keep c4); clear t_; clear tok3; have tok4 : Tok 4 := ⟨⟩)
    | (go_at_call 19; have t_ : Tok 4 := ‹Tok 4›; refine (num2 _ (hG.below b4.out)).mono ?_; rintro e w5 ⟨rfl, c5⟩; have b5 := hid (below_then b4.out c5); have hf5 := hid (hf4.out.keep c5); clear t_; clear tok4; have tok5 : Tok 5 := ⟨⟩)
    | (go_at_call 16; refine (uns1 _).mono ?_; rintro e w6 ⟨rfl, rfl⟩)
    | (go_at_call 11; have t_ : Tok 5 := ‹Tok 5›; refine (enc1 _ _ _ (lit_at w5 [102] _ _ _ rfl rfl) (by decide)).mono ?_; rintro e w6 ⟨rfl, c6⟩; have b6 := hid (below_then (b5.out.alloc b5.out.size _) c6); have hf6 := hid ((hf5.out.alloc _).keep c6); clear t_; clear tok5; have tok6 : Tok 6 := ⟨⟩)
    | (go_at_call 11; have t_ : Tok 6 := ‹Tok 6›; refine (enc2 _ _ _ (lit_at w6 [102, 111, 111] _ _ _ rfl rfl) (by decide)).mono ?_; rintro e w7 ⟨rfl, c7⟩; have b7 := hid (below_then (b6.out.alloc b6.out.size _) c7); have cv7 := ((hf6.out.alloc _).keep c7).conv; clear t_; clear tok6; have tok7 : Tok 7 := ⟨⟩)
    | (go_at_call 15; have t_ : Tok 7 := ‹Tok 7›; refine (stf1 _ _ _ (hG.below (b7.out.alloc b7.out.size _)) (lit_at w7 [46, 97] _ _ _ rfl rfl) (by decide)).mono ?_; rintro e w8 ⟨A8, k8, rfl, cv8, c8⟩; have b8 := hid (below_then (b7.out.alloc b7.out.size _) c8); clear t_; clear tok7; have tok8 : Tok 8 := ⟨⟩)
    | (go_at_call 15; have t_ : Tok 8 := ‹Tok 8›; refine (stf2 _ (hG.below b8.out)).mono ?_; rintro e w9 ⟨A9, k9, rfl, cv9, c9⟩; have b9 := hid (below_then b8.out c9); clear t_; clear tok8; have tok9 : Tok 9 := ⟨⟩)
    | (go_at_call 21; have t_ : Tok 9 := ‹Tok 9›; refine (quo1 _ (hG.below b9.out)).mono ?_; rintro e w10 ⟨rfl, c10⟩; have b10 := hid (below_then b9.out c10); clear t_; clear tok9; have tok10 : Tok 10 := ⟨⟩)
    | (go_at_call 21; have t_ : Tok 10 := ‹Tok 10›; refine (quo2 _ (hG.below b10.out)).mono ?_; rintro e w11 ⟨rfl, c11⟩; have b11 := hid (below_then b10.out c11); clear t_; clear tok10; have tok11 : Tok 11 := ⟨⟩)
    | (go_at_call 23; have t_ : Tok 11 := ‹Tok 11›; refine (gre1 _).mono ?_; rintro e w12 ⟨rfl, c12⟩; have b12 := hid (below_then b11.out c12); clear t_; clear tok11; have tok12 : Tok 12 := ⟨⟩)
    | (go_at_call 25; have t_ : Tok 12 := ‹Tok 12›; refine (sma1 _).mono ?_; rintro e w13 ⟨rfl, c13⟩; have b13 := hid (below_then b12.out c13); clear t_; clear tok12; have tok13 : Tok 13 := ⟨⟩))
  go_ret
  exact ⟨rfl, b13.out⟩

end Go.Proofs.YtnphpinnkmndfaaDoor
