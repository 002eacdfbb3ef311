/-
  SeqsetReads and SeqsetAll walked.
-/
import Derived.Test.YtifjikpinmgfaaaDoorShown
namespace Go.Proofs.YtifjikpinmgfaaaDoor
open Go.RowKit Own Dec Sq
set_option linter.unusedVariables false
set_option linter.unusedSimpArgs false
set_option maxRecDepth 100000

attribute [local go_sem] str_toList

set_option maxHeartbeats 4000000 in
theorem reads_walk (s : List UInt8) (A : Option Addr) (nn cc : Nat) (l : List Rg) (w : World) (hG : GoodC w) (hs : SrcR w A l) (hn : nn = l.length) (hsl : s.length ≤ 1048576) (hl : l.length ≤ 1048576) :
    Calls Tryd.prog 5 #[.string (str s), .slice A nn cc] w fun e w' => e = .returned (.bool true) ∧ Below w.heap.size w w' := by
  subst hn
  have hp := fun W g => parse_any s W g (by omega)
  have hrp := fun W => rparse_any s W (by omega)
  obtain ⟨R, E, hRE⟩ : ∃ R E, parseS s = (R, E) := ⟨_, _, rfl⟩
  rw [hRE] at hp hrp
  have hRl : R.length ≤ 1000000000 := by
    have := Spl.splitL_len 44 s
    unfold parseS at hRE
    cases hq : partsS (Spl.splitL 44 s) with
    | none =>
      rw [hq] at hRE
      have : (([] : List Rg), (190 : Int)) = (R, E) := hRE
      simp only [Prod.mk.injEq] at this
      rw [← this.1]; simp
    | some r =>
      have hlen := partsS_len hq
      rw [hq] at hRE
      have h2 : (if 16 < r.length then (([] : List Rg), (5 : Int)) else (r, 0)) = (R, E) := hRE
      split at h2
      · simp only [Prod.mk.injEq] at h2
        rw [← h2.1]; simp
      · simp only [Prod.mk.injEq] at h2
        rw [← h2.1]; omega
  have hsm := fun W A1 c1 A2 c2 h1 h2 => same_same A1 A2 R.length c1 R.length c2 R W h1 h2 rfl rfl (by omega)
  have hpr := fun W g h => print_any A l.length cc l W g h rfl (by omega)
  have hrpr := fun W h => rprint_any A l.length cc l W h rfl (by omega)
  obtain ⟨X, F, hXF⟩ : ∃ X F, printS l = (X, F) := ⟨_, _, rfl⟩
  rw [hXF] at hpr hrpr
  have HS := hid hs
  clear hs hRE hXF hRl
  go_enter Tryd.func5, Tryd.ntmps5
  go_wp2_with (first
    | (go_at_call 7; refine (shown_any w hG).mono ?_; rintro e w1 ⟨rfl, c1⟩; have b1 := hid c1; clear c1)
    | (go_at_call 13; refine (hp _ (hG.below b1.out)).mono ?_; rintro e w2 ⟨v2, rfl, h2, c2⟩; obtain ⟨A2, k2, rfl, -, s2⟩ := h2.full; have b2 := hid (below_then b1.out c2); have S2 := hid s2; clear c2 h2 s2)
    | (go_at_call 14; refine (hrp _).mono ?_; rintro e w3 ⟨v3, rfl, h3, c3⟩; obtain ⟨A3, k3, rfl, -, s3⟩ := h3.full; have b3 := hid (below_then b2.out c3); have S3 := hid (S2.out.below c3); have R3 := hid s3; clear c3 h3 s3)
    | (go_at_call 15; refine (hsm _ _ _ _ _ S3.out R3.out).mono ?_; rintro e w4 ⟨rfl, c4⟩; have b4 := hid (below_then b3.out c4); clear c4)
    | (go_at_call 16; refine (hpr _ (hG.below b4.out) (HS.out.below b4.out)).mono ?_; rintro e w5 ⟨rfl, c5⟩; have b5 := hid (below_then b4.out c5); clear c5)
    | (go_at_call 17; refine (hrpr _ (HS.out.below b5.out)).mono ?_; rintro e w6 ⟨rfl, c6⟩; have b6 := hid (below_then b5.out c6); clear c6))
  go_ret
  exact ⟨by first | rfl | simp, b6.out⟩

set_option maxHeartbeats 4000000 in
theorem all_walk (A : Option Addr) (nn cc : Nat) (all : List Int) (w : World) (hG : GoodC w) (hs : Src w A (iv all)) (hn : nn = all.length) (hl : all.length ≤ 17592186044415) :
    Calls Tryd.prog 4 #[.slice A nn cc] w fun e w' => e = .returned (.bool true) ∧ Below w.heap.size w w' := by
  subst hn
  have HS := hid hs
  clear hs
  have hp1 := fun W A1 h1 h2 => pick_any A1 A 1 1 all.length cc [(1, 0)] all W h1 h2 rfl rfl (by decide) hl
  have hp2 := fun W A1 h1 h2 => pick_any A1 A 1 1 all.length cc [(0, 1)] all W h1 h2 rfl rfl (by decide) hl
  rw [pick_all all _ (.inl rfl)] at hp1
  rw [pick_all all _ (.inr rfl)] at hp2
  obtain ⟨F, hF⟩ : ∃ F, F = all.filter fun n => decide (1 ≤ n) := ⟨_, rfl⟩
  rw [← hF] at hp1 hp2
  have hFl : F.length ≤ all.length := by rw [hF]; exact List.length_filter_le _ _
  have hin := fun W A1 c1 A2 c2 h1 h2 => ints_same A1 A2 F.length c1 F.length c2 F W h1 h2 rfl rfl (by omega)
  have HF := hid hF
  clear hF
  go_enter Tryd.func4, Tryd.ntmps4
  go_wp2_with (first
    | (go_at_call 7; refine (shown_any w hG).mono ?_; rintro e w1 ⟨rfl, c1⟩; have b1 := hid c1; clear c1))
  obtain ⟨W2, hW2⟩ : ∃ W2, W2 = (w1.alloc (.cells #[.int .i64 1, .int .i64 0] 30)).alloc (.cells #[.int .i64 0, .int .i64 1] 30) := ⟨_, rfl⟩
  have R1 : Hid (SrcR W2 (some ⟨w1.heap.size, 0, none⟩) [(1, 0)]) := hid (by rw [hW2]; exact (RBuf.lit w1 [(1, 0)] _ (0, 0) _ rfl rfl).below ((Below.refl _ _).alloc (Nat.le_refl _) _))
  have R2 : Hid (SrcR W2 (some ⟨w1.heap.size + 1, 0, none⟩) [(0, 1)]) := hid (by rw [hW2]; exact RBuf.lit _ [(0, 1)] _ (0, 0) _ (by simp) rfl)
  have bW : Hid (Below w.heap.size w W2) := hid (by rw [hW2]; exact (b1.out.alloc b1.out.size _).alloc (by simp; have := b1.out.size; omega) _)
  have HB0 : Hid (IBuf W2.heap.size (W2.alloc (.cells #[] 3)) (.slice (some ⟨w1.heap.size + 1 + 1, 0, none⟩) 0 0) []) := hid (by
    have := IBuf.lit W2 [] (by simp)
    rw [show W2.heap.size = w1.heap.size + 1 + 1 by rw [hW2]; simp] at this ⊢
    exact this)
  have L0 : Hid (Below W2.heap.size W2 (W2.alloc (.cells #[] 3))) := hid ((Below.refl _ _).alloc (Nat.le_refl _) _)
  rw [← hW2]
  clear hW2
  go_loopw [6, 7] (fun v6 v7 wr => ∃ i : Nat, i ≤ all.length ∧ v7 = .int .i64 i ∧ IBuf W2.heap.size wr v6 ((all.take i).filter fun n => decide (1 ≤ n)) ∧ Below W2.heap.size W2 wr) (fun _ v7 _ => all.length - (intOf v7).toNat)
  case atStart => exact ⟨0, Nat.zero_le _, rfl, HB0.out, L0.out⟩
  case round =>
    obtain ⟨i, hi, rfl, hbuf, hbel⟩ := hrel
    have HBUF := hid hbuf
    have HBE := hid hbel
    have HW := hid (below_then bW.out hbel)
    by_cases hil : i < all.length
    · obtain ⟨x, hx⟩ : ∃ x, all[i]? = some x := ⟨_, List.getElem?_eq_getElem hil⟩
      obtain ⟨p, rfl⟩ := isrc_some HS.out (fun h => by rw [h] at hil; simp at hil)
      have hcell := (HS.out.below HW.out).2 p rfl i _ (iv_at hx)
      have hsn : (all.take (i + 1)).filter (fun n => decide (1 ≤ n)) = (all.take i).filter (fun n => decide (1 ≤ n)) ++ (if 1 ≤ x then [x] else []) := by
        rw [take_snoc hx, List.filter_append]
        congr 1
        by_cases hq : 1 ≤ x <;> simp [hq]
      have hfl : ((all.take i).filter fun n => decide ((1 : Int) ≤ n)).length ≤ all.length := Nat.le_trans (List.length_filter_le _ _) (by simp; omega)
      clear hx hbuf hbel
      by_cases h1 : 1 ≤ x
      · rw [if_pos h1] at hsn
        have HSN := hid hsn
        clear hsn
        generalize (all.take i).filter (fun n => decide ((1 : Int) ≤ n)) = o at *
        go_wp2_with ((at_builtin; refine wpList_ibuf W2.heap.size _ rfl _ _ rfl _ o [x] rfl (HBUF.out.alloc _) _ 1 1 rfl rfl (ilit_at _ [x] _ _ _ rfl rfl) (by simp; omega) ?_; intro v' w2 hr2 hb2))
        go_roundw
        case rel => exact ⟨i + 1, by omega, by go_num, by rw [HSN.out]; exact hr2, (HBE.out.alloc HBE.out.size _).trans hb2⟩
        case measure => simp [intOf]; omega
      · rw [if_neg h1, List.append_nil] at hsn
        have HSN := hid hsn
        clear hsn
        go_wp2_with fail
        go_roundw
        case rel => exact ⟨i + 1, by omega, by go_num, by rw [HSN.out]; exact HBUF.out, HBE.out⟩
        case measure => simp [intOf]; omega
    · obtain rfl : i = all.length := by omega
      rw [List.take_length, ← HF.out] at hbuf
      obtain ⟨A6, c6, rfl, -, hs6⟩ := hbuf.full
      have S6 := hid hs6
      have Q1 := hid (R1.out.below hbel)
      have Q2 := hid (R2.out.below hbel)
      have tok0 : Tk 0 := ⟨⟩
      clear hbuf hbel hil hs6 HBUF
      go_wp2_with (first
        | (go_at_call 9; have t_ : Tk 0 := ‹Tk 0›; refine (hp1 _ _ Q1.out (HS.out.below HW.out)).mono ?_; rintro e w3 ⟨v3, rfl, h3, c3⟩; obtain ⟨A3, k3, rfl, -, s3⟩ := h3.full; have b3 := hid (below_then HW.out c3); have P3 := hid s3; have T3 := hid (S6.out.below c3); have U3 := hid (Q2.out.below c3); clear c3 h3 s3; clear t_; clear tok0; have tok1 : Tk 1 := ⟨⟩)
        | (go_at_call 8; have t_ : Tk 1 := ‹Tk 1›; refine (hin _ _ _ _ _ P3.out T3.out).mono ?_; rintro e w4 ⟨rfl, c4⟩; have b4 := hid (below_then b3.out c4); have T4 := hid (T3.out.below c4); have U4 := hid (U3.out.below c4); clear c4; clear t_; clear tok1; have tok2 : Tk 2 := ⟨⟩)
        | (go_at_call 9; have t_ : Tk 2 := ‹Tk 2›; refine (hp2 _ _ U4.out (HS.out.below b4.out)).mono ?_; rintro e w5 ⟨v5, rfl, h5, c5⟩; obtain ⟨A5, k5, rfl, -, s5⟩ := h5.full; have b5 := hid (below_then b4.out c5); have P5 := hid s5; have T5 := hid (T4.out.below c5); clear c5 h5 s5; clear t_; clear tok2; have tok3 : Tk 3 := ⟨⟩)
        | (go_at_call 8; have t_ : Tk 3 := ‹Tk 3›; refine (hin _ _ _ _ _ P5.out T5.out).mono ?_; rintro e w6 ⟨rfl, c6⟩; have b6 := hid (below_then b5.out c6); clear c6; clear t_; clear tok3; have tok4 : Tk 4 := ⟨⟩))
      go_ret
      exact ⟨rfl, b6.out⟩

end Go.Proofs.YtifjikpinmgfaaaDoor
