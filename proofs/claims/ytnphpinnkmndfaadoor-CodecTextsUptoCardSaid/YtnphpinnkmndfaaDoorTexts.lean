/-
  CodecTexts and CodecBack walked.
-/
import Derived.Test.YtnphpinnkmndfaaDoorShown
import Derived.Test.YtnphpinnkmndfaaDoorRDec
import Derived.Test.YtnphpinnkmndfaaDoorRNum
import Derived.Test.YtnphpinnkmndfaaDoorRQuote
namespace Go.Proofs.YtnphpinnkmndfaaDoor
open Go.RowKit Own Dec
set_option linter.unusedVariables false
set_option linter.unusedSimpArgs false
set_option maxRecDepth 100000

attribute [local go_sem] str_toList

set_option maxHeartbeats 4000000 in
theorem texts_walk (l : List UInt8) (most : Int) (w : World) (hG : GoodC w) (hl : l.length ≤ 1048576) :
    Calls Tryd.prog 7 #[.string (str l), .int .i64 most] w fun e w' => e = .returned (.bool true) ∧ Below w.heap.size w w' := by
  obtain ⟨n, b, hnb⟩ : ∃ n b, numR l most = (n, b) := ⟨_, _, rfl⟩
  have hnum := fun W g => number_any l most W g
  have hrnum := fun W => rnumber_any l most W (by omega)
  rw [hnb] at hnum hrnum
  have hq := fun W g => quote_any l W g (by omega)
  have hrq := fun W => rquote_any l W (by omega)
  have hg := fun W => great_any l W (by omega)
  have hrg := fun W => rgreat_any l W (by omega)
  have hs := fun W => small_any l W (by omega)
  have hrs := fun W => rsmall_any l W (by omega)
  generalize quoteL l = Q at hq hrq
  generalize l.map (moveB 97 65) = G at hg hrg
  generalize l.map (moveB 65 97) = M at hs hrs
  clear hnb
  have bE : ∀ b : Bool, (b == b) = true := fun b => by cases b <;> rfl
  go_enter Tryd.func7, Tryd.ntmps7
  go_wp2_with (first
    | (go_at_call 10; refine (shown_any w hG).mono ?_; rintro e w1 ⟨rfl, c1⟩; have b1 := hid c1; clear c1)
    | (go_at_call 19; refine (hnum _ (hG.below b1.out)).mono ?_; rintro e w2 ⟨rfl, c2⟩; have b2 := hid (below_then b1.out c2); clear c2)
    | (go_at_call 20; refine (hrnum _).mono ?_; rintro e w3 ⟨rfl, c3⟩; have b3 := hid (below_then b2.out c3); clear c3)
    | (go_at_call 21; refine (hq _ (hG.below b3.out)).mono ?_; rintro e w4 ⟨rfl, c4⟩; have b4 := hid (below_then b3.out c4); clear c4)
    | (go_at_call 22; refine (hrq _).mono ?_; rintro e w5 ⟨rfl, c5⟩; have b5 := hid (below_then b4.out c5); clear c5)
    | (go_at_call 23; refine (hg _).mono ?_; rintro e w6 ⟨rfl, c6⟩; have b6 := hid (below_then b5.out c6); clear c6)
    | (go_at_call 24; refine (hrg _).mono ?_; rintro e w7 ⟨rfl, c7⟩; have b7 := hid (below_then b6.out c7); clear c7)
    | (go_at_call 25; refine (hs _).mono ?_; rintro e w8 ⟨rfl, c8⟩; have b8 := hid (below_then b7.out c8); clear c8)
    | (go_at_call 26; refine (hrs _).mono ?_; rintro e w9 ⟨rfl, c9⟩; have b9 := hid (below_then b8.out c9); clear c9))
  go_ret
  exact ⟨rfl, b9.out⟩

set_option maxHeartbeats 4000000 in
theorem back_walk (A : Option Addr) (nn cc : Nat) (bs l : List UInt8) (w : World) (hG : GoodC w) (hs : Src w A (bv bs)) (hn : nn = bs.length) (hcap : nn ≤ cc) (hb : bs.length ≤ 1048576) (hl : l.length ≤ 1048576) :
    Calls Tryd.prog 4 #[.slice A nn cc, .string (str l)] w fun e w' => e = .returned (.bool true) ∧ Below w.heap.size w w' := by
  subst hn
  have henc := fun W h1 => encode_any A bs.length cc bs W h1 rfl hcap (by omega)
  have hel := Enc.enc_len bs
  have hdec := fun W => decode_any (Enc.enc bs) W (by omega)
  rw [Enc.decV_ok rfl] at hdec
  obtain ⟨X, hX⟩ : ∃ X, Enc.enc bs = X := ⟨_, rfl⟩
  rw [hX] at henc hdec
  have hdec2 := fun W => decode_any l W (by omega)
  have HS := hid hs
  clear hs hX hel
  by_cases hok : ∃ b, Enc.enc b = l
  · obtain ⟨D, hD⟩ := hok
    have hDl := Enc.enc_ge D
    rw [hD] at hDl
    rw [Enc.decV_ok hD] at hdec2
    have henc2 := fun A c W h1 h3 => encode_any A D.length c D W h1 rfl h3 (by omega)
    rw [hD] at henc2
    clear hD hDl
    have tok0 : Tok 0 := ⟨⟩
    go_enter Tryd.func4, Tryd.ntmps4
    go_wp2_with (first
      | (go_at_call 10; refine (shown_any w hG).mono ?_; rintro e w1 ⟨rfl, c1⟩; have b1 := hid c1; clear c1)
      | (go_at_call 11; have t_ : Tok 0 := ‹Tok 0›; refine (henc _ (HS.out.below b1.out)).mono ?_; rintro e w2 ⟨rfl, c2⟩; have b2 := hid (below_then b1.out c2); clear c2; clear t_; clear tok0; have tok1 : Tok 1 := ⟨⟩)
      | (go_at_call 12; have t_ : Tok 1 := ‹Tok 1›; refine (hdec _).mono ?_; rintro e w3 ⟨v3, rfl, hr3, c3⟩; obtain ⟨A3, k3, rfl, -, -⟩ := hr3.full; have b3 := hid (below_then b2.out c3); have D3 := hid hr3; clear c3 hr3; clear t_; clear tok1; have tok2 : Tok 2 := ⟨⟩)
      | (go_at_call 12; have t_ : Tok 2 := ‹Tok 2›; refine (hdec2 _).mono ?_; rintro e w4 ⟨v4, rfl, hr4, c4⟩; obtain ⟨A4, k4, rfl, hk4, hs4⟩ := hr4.full; have b4 := hid (below_then b3.out c4); have cv1 := (D3.out.keep c4).conv; have cv2 := conv_src (HS.out.below b4.out) bs.length cc rfl; have HK4 := hid hk4; have HS4 := hid hs4; clear c4 hr4 hk4 hs4; clear t_; clear tok2; have tok3 : Tok 3 := ⟨⟩)
      | (go_at_call 11; have t_ : Tok 3 := ‹Tok 3›; refine (henc2 _ _ _ HS4.out HK4.out).mono ?_; rintro e w5 ⟨rfl, c5⟩; have b5 := hid (below_then b4.out c5); clear c5; clear t_; clear tok3; have tok4 : Tok 4 := ⟨⟩))
    go_ret
    exact ⟨rfl, b5.out⟩
  · rw [Enc.decV_bad (fun b hb => hok ⟨b, hb⟩)] at hdec2
    have tok0 : Tok 0 := ⟨⟩
    clear hok
    go_enter Tryd.func4, Tryd.ntmps4
    go_wp2_with (first
      | (go_at_call 10; refine (shown_any w hG).mono ?_; rintro e w1 ⟨rfl, c1⟩; have b1 := hid c1; clear c1)
      | (go_at_call 11; have t_ : Tok 0 := ‹Tok 0›; refine (henc _ (HS.out.below b1.out)).mono ?_; rintro e w2 ⟨rfl, c2⟩; have b2 := hid (below_then b1.out c2); clear c2; clear t_; clear tok0; have tok1 : Tok 1 := ⟨⟩)
      | (go_at_call 12; have t_ : Tok 1 := ‹Tok 1›; refine (hdec _).mono ?_; rintro e w3 ⟨v3, rfl, hr3, c3⟩; obtain ⟨A3, k3, rfl, -, -⟩ := hr3.full; have b3 := hid (below_then b2.out c3); have D3 := hid hr3; clear c3 hr3; clear t_; clear tok1; have tok2 : Tok 2 := ⟨⟩)
      | (go_at_call 12; have t_ : Tok 2 := ‹Tok 2›; refine (hdec2 _).mono ?_; rintro e w4 ⟨v4, rfl, hr4, c4⟩; obtain ⟨A4, k4, rfl, -, -⟩ := hr4.full; have b4 := hid (below_then b3.out c4); have cv1 := (D3.out.keep c4).conv; have cv2 := conv_src (HS.out.below b4.out) bs.length cc rfl; clear c4 hr4; clear t_; clear tok2; have tok3 : Tok 3 := ⟨⟩))
    go_ret
    exact ⟨rfl, b4.out⟩

end Go.Proofs.YtnphpinnkmndfaaDoor
