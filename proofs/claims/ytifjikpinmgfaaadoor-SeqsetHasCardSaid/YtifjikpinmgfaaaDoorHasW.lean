/-
  SeqsetHas walked.
-/
import Derived.Test.YtifjikpinmgfaaaDoorShown
namespace Go.Proofs.YtifjikpinmgfaaaDoor
open Go.RowKit Own Dec Sq
set_option linter.unusedVariables false
set_option linter.unusedSimpArgs false
set_option maxRecDepth 100000

set_option maxHeartbeats 4000000 in
theorem has_walk (A : Option Addr) (nn cc : Nat) (l : List Rg) (A2 : Option Addr) (n2 c2 : Nat) (all : List Int) (g : Int) (w : World) (hG : GoodC w) (hs : SrcR w A l) (hn : nn = l.length) (hs2 : Src w A2 (iv all)) (hn2 : n2 = all.length) (hl : l.length ≤ 4611686018427387904) (hl2 : all.length ≤ 17592186044415) :
    Calls Tryd.prog 3 #[.slice A nn cc, .slice A2 n2 c2, .int .i64 g] w fun e w' => e = .returned (.bool true) ∧ Below w.heap.size w w' := by
  subst hn hn2
  have HS := hid hs
  have HS2 := hid hs2
  clear hs hs2
  have hp := fun W A3 c3 h1 h2 => pick_any A A3 l.length cc all.length c3 l all W h1 h2 rfl rfl hl hl2
  have hrp := fun W h1 h2 => rpick_any A A2 l.length cc all.length c2 l all W h1 h2 rfl rfl hl hl2
  obtain ⟨F, hF⟩ : ∃ F, F = pick l all := ⟨_, rfl⟩
  rw [← hF] at hp hrp
  have hFl : F.length ≤ all.length := by rw [hF]; exact List.length_filter_le _ _
  have hin := fun W A1 c1 A2 c2 h1 h2 => ints_same A1 A2 F.length c1 F.length c2 F W h1 h2 rfl rfl (by omega)
  clear hF
  go_enter Tryd.func3, Tryd.ntmps3
  go_wp2_with (first
    | (go_at_call 7; refine (shown_any w hG).mono ?_; rintro e w1 ⟨rfl, c1⟩; have b1 := hid c1; have B1 := hid (IBuf.lit w1 [] (by simp)); clear c1)
    | (at_builtin; refine wpList_ibuf w1.heap.size _ rfl _ _ rfl _ [] all rfl B1.out _ _ _ rfl rfl (HS2.out.below (b1.out.alloc b1.out.size _)) (by simp; omega) ?_; intro v2 w2 hr2 hb2; rw [List.nil_append] at hr2; obtain ⟨A3, c3, rfl, -, hs3⟩ := hr2.full; have b2 := hid ((b1.out.alloc b1.out.size _).trans (hb2.mono b1.out.size)); have HS3 := hid hs3; clear hr2 hb2 hs3)
    | (go_at_call 9; refine (hp _ _ _ (HS.out.below b2.out) HS3.out).mono ?_; rintro e w3 ⟨v3, rfl, h3, d3⟩; obtain ⟨A5, k5, rfl, -, s5⟩ := h3.full; have b3 := hid (below_then b2.out d3); have P3 := hid s5; have O3 := hid (HS3.out.below d3); clear d3 h3 s5)
    | (go_at_call 10; refine (hrp _ (HS.out.below b3.out) (HS2.out.below b3.out)).mono ?_; rintro e w4 ⟨v4, rfl, h4, d4⟩; obtain ⟨A6, k6, rfl, -, s6⟩ := h4.full; have b4 := hid (below_then b3.out d4); have P4 := hid (P3.out.below d4); have R4 := hid s6; have O4 := hid (O3.out.below d4); clear d4 h4 s6)
    | (go_at_call 8; refine (hin _ _ _ _ _ P4.out R4.out).mono ?_; rintro e w5 ⟨rfl, d5⟩; have b5 := hid (below_then b4.out d5); have O5 := hid (O4.out.below d5); clear d5))
  go_loopw [10] (fun v10 wr => ∃ i : Nat, i ≤ all.length ∧ v10 = .int .i64 i ∧ Below w5.heap.size w5 wr) (fun v10 _ => all.length - (intOf v10).toNat)
  case atStart => exact ⟨0, Nat.zero_le _, rfl, Below.refl _ _⟩
  case round =>
    obtain ⟨i, hi, rfl, hbel⟩ := hrel
    have HBE := hid hbel
    have HW := hid (below_then b5.out hbel)
    by_cases hil : i < all.length
    · obtain ⟨x, hx⟩ : ∃ x, all[i]? = some x := ⟨_, List.getElem?_eq_getElem hil⟩
      obtain ⟨p, rfl⟩ := isrc_some HS2.out (fun h => by rw [h] at hil; simp at hil)
      obtain ⟨q, rfl⟩ := isrc_some HS3.out (fun h => by rw [h] at hil; simp at hil)
      have hcell := (HS2.out.below HW.out).2 p rfl i _ (iv_at hx)
      have hcell2 := (O5.out.below HBE.out).2 q rfl i _ (iv_at hx)
      have hsr := HS.out.below HW.out
      have hh := fun W h => has_any A l.length cc l x g W h rfl hl
      have hrh := fun W h => rhas_any A l.length cc l x g W h rfl hl
      obtain ⟨H, hH⟩ : ∃ H, H = has l x g := ⟨_, rfl⟩
      rw [← hH] at hh hrh
      have ex : (x != x) = false := by simp
      have eH : (H != H) = false := by simp
      have hsd := hsr.below (Below.refl _ _).drew
      have hcd := keep_below (Below.refl _ _).drew rfl hcell
      have hcd2 := keep_below (Below.refl _ _).drew rfl hcell2
      clear hx hH hbel hp hrp hin
      go_wp2_with fail
      go_region_held3 (fun w' => SrcR w' A l ∧ w'.cell? (p.add i) = some (.int .i64 x) ∧ w'.cell? (q.add i) = some (.int .i64 x))
        (first
          | exact ⟨hsd, hcd, hcd2⟩
          | go_keep
          | assumption
          | (go_split_ands; exact ⟨SrcR.below (by assumption) c6, keep_below c6 rfl (by assumption), keep_below c6 rfl (by assumption)⟩))
        (first
          | (go_at_call 11; refine (hh _ ?_).mono ?_; (exact And.left (by assumption)); rintro e w6 ⟨rfl, c6⟩)
          | (go_at_call 12; refine (hrh _ ?_).mono ?_; (exact And.left (by assumption)); rintro e w6 ⟨rfl, rfl⟩))
      go_wp2_with fail
      go_roundw
      case rel => exact ⟨i + 1, by omega, by go_num, below_then HBE.out.drew c6⟩
      case measure => simp [intOf]; omega
    · obtain rfl : i = all.length := by omega
      clear hil hi hbel
      go_wp2_with fail
      go_ret
      exact ⟨rfl, HW.out⟩

end Go.Proofs.YtifjikpinmgfaaaDoor
