/-
  ImaplineFlags: the walk.
-/
import Derived.Test.YtfdmdmahddjjmaaGreatDoorKImZ
import Derived.Test.YtfdmdmahddjjmaaGreatDoorKImYr
import Derived.Test.YtfdmdmahddjjmaaGreatDoorKImSt
namespace Go.Proofs.YtfdmdmahddjjmaaGreatDoor
open Go.RowKit Own Im
set_option linter.unusedVariables false
set_option linter.unusedSimpArgs false
set_option maxRecDepth 100000

abbrev storeP : Bt := [116, 32, 83, 84, 79, 82, 69, 32, 49, 32, 70, 76, 65, 71, 83, 32]
theorem store_form : ∀ n : Fin 32, formK (headS ((storeP ++ flagsS (n.val : Int)).drop ((tagS (storeP ++ flagsS (n.val : Int))).length + 1))).1 = some 7 := by decide +kernel
theorem flags_short : ∀ n : Fin 32, (flagsS (n.val : Int)).length ≤ 100 := by decide +kernel

attribute [local go_sem] str_toList str_size ByteArray.size_append

set_option maxHeartbeats 8000000 in
theorem flags_walk (n : Int) (w : World) (hG : Gd w) :
    Calls Tryz.prog 6 #[.int .i64 n] w fun e w' => e = .returned (.bool true) ∧ Below w.heap.size w w' := by
  have HG := hid hG
  clear hG
  have hf1 := fun W => iflags_any n W
  have hf2 := fun W => rflags_any n W
  by_cases hn : n < 0 ∨ 31 < n
  · obtain ⟨F, hF⟩ : ∃ F, F = flagsS n := ⟨_, rfl⟩
    rw [← hF] at hf1 hf2
    clear hF
    have hFF : (F != F) = false := by simp
    rcases hn with hn | hn
    all_goals
      go_enter Tryz.func6, Tryz.ntmps6
      go_wp2_with (first
        | (go_at_call 8; refine (shown_any w HG.out).mono ?_; rintro e w1 ⟨rfl, c1⟩; have b1 := hid c1; clear c1)
        | (go_at_call 20; refine (hf1 _).mono ?_; rintro e w2 ⟨rfl, c2⟩; have b2 := hid (below_then b1.out c2); clear c2)
        | (go_at_call 21; refine (hf2 _).mono ?_; rintro e w3 ⟨rfl, c3⟩; have b3 := hid (below_then b2.out c3); clear c3))
      go_ret
      exact ⟨rfl, b3.out⟩
  · have hn0 : 0 ≤ n := by omega
    have hn1 : n ≤ 31 := by omega
    obtain ⟨k, hk⟩ : ∃ k : Fin 32, n = (k.val : Int) := ⟨⟨n.toNat, by omega⟩, by simp; omega⟩
    have hp := store_reads k
    have hfo := store_form k
    have hfl := flags_short k
    rw [← hk] at hp hfo hfl
    obtain ⟨F, hF⟩ : ∃ F, F = flagsS n := ⟨_, rfl⟩
    rw [← hF] at hf1 hf2 hp hfo hfl
    clear hF hn
    have hFF : (F != F) = false := by simp
    have hL : ({ data := #[116, 32, 83, 84, 79, 82, 69, 32, 49, 32, 70, 76, 65, 71, 83, 32] } : ByteArray) ++ str F = str (storeP ++ F) := by rw [← str_append]; rfl
    have hform := form_of hfo store_any
    obtain ⟨L, hLL⟩ : ∃ L, L = storeP ++ F := ⟨_, rfl⟩
    have hl : L.length ≤ 100000000 := by rw [hLL]; simp; omega
    have hp2 : parseS L = ({ tag := [116], word := [83, 84, 79, 82, 69], set := [(1, 1)], flags := k.val }, 0) := by rw [hLL]; exact hp
    have hform2 : ∀ j, formK (headS (L.drop ((tagS L).length + 1))).1 = some j → FormC (fidOf j) (readF j) := by rw [hLL]; exact hform
    rw [← hLL] at hL
    have HP := hid hp2
    have HFO := hid hform2
    have HK := hid hk
    clear hp hp2 hfo hform hform2 hLL hk
    have tok0 : Tk 0 := ⟨⟩
    go_enter Tryz.func6, Tryz.ntmps6
    go_wp2_with (first
      | (go_at_call 8; refine (shown_any w HG.out).mono ?_; rintro e w1 ⟨rfl, c1⟩; have b1 := hid c1; clear c1)
      | (go_at_call 20; have t_ : Tk 0 := ‹Tk 0›; refine (hf1 _).mono ?_; rintro e w2 ⟨rfl, c2⟩; have b2 := hid (below_then b1.out c2); clear c2 t_ tok0; have tok1 : Tk 1 := ⟨⟩)
      | (go_at_call 21; refine (hf2 _).mono ?_; rintro e w3 ⟨rfl, c3⟩; have b3 := hid (below_then b2.out c3); clear c3)
      | (go_at_call 20; have t_ : Tk 1 := ‹Tk 1›; refine (hf1 _).mono ?_; rintro e w4 ⟨rfl, c4⟩; have b4 := hid (below_then b3.out c4); clear c4 t_ tok1; have tok2 : Tk 2 := ⟨⟩)
      | (go_at_call 10; refine (parse_any L _ (HG.out.below b4.out) hl HFO.out).mono ?_; intro e w5 hp; rw [HP.out] at hp; obtain ⟨⟨vs, vn, vi, vk, vl⟩, rfl, hr, hb⟩ := hp; obtain ⟨As, ks, hvs, -, -⟩ := hr.set.full; dsimp only at hvs; subst hvs; obtain ⟨An, kn, hvn, -, -, -⟩ := hr.names.full; dsimp only at hvn; subst hvn; obtain ⟨Ai, ki, hvi, -, -, -⟩ := hr.items.choose_spec.1.full; dsimp only at hvi; subst hvi; obtain ⟨Ak, kk, hvk, -, -, -⟩ := hr.keys.choose_spec.1.full; dsimp only at hvk; subst hvk; obtain ⟨Al, kl, hvl, -, -, -⟩ := hr.lit.full; dsimp only at hvl; subst hvl; have b5 := hid (below_then b4.out hb); clear hr hb; dsimp only [cmC]; rw [← HK.out]))
    go_ret
    exact ⟨rfl, b5.out.alloc b5.out.size _⟩
end Go.Proofs.YtfdmdmahddjjmaaGreatDoor
