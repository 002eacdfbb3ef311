/-
  slices.Clone of bytes: a new row of the same bytes.
-/
import Derived.Test.YtboijleajaiiiaaProg
import Derived.Test.YtboijleajaiiiaaOwn
import Derived.WalkKit
import Derived.WalkSpells
import Derived.WalkLawsBesides
namespace Go.Proofs.Ytboijleajaiiiaa
open Go.RowKit Own
set_option linter.unusedVariables false
set_option linter.unusedSimpArgs false

theorem info_u8 : (Try.prog.info? 5).map (fun i => (i.zero, i.size, i.bytes)) = some (some (.int .u8 0), 1, 1) := by kernel_rfl

theorem clone_nil (w : World) :
    Calls Try.prog 15 #[.slice none 0 0] w fun e w' => e = .returned (.slice none 0 0) ∧ w = w' := by
  have hn := fun (w : World) => Lib.run_eql_slice_nil (P := Try.prog) w 22 5 none 0 0 0 0 Try.underlying22
  go_enter Try.func15, Try.ntmps15
  go_wp2
  go_ret
  exact ⟨rfl, rfl⟩

theorem clone_some (p : Addr) (n c : Nat) (xs : List Value) (w : World) (hs : Src w (some p) xs) (hn0 : n = xs.length) (h1 : ∀ u ∈ xs, u.oneCell' = true) (hlen : xs.length ≤ 1099511627776) :
    Calls Try.prog 15 #[.slice (some p) n c] w fun e w' => ∃ v', e = .returned v' ∧ Row 5 (fun k => w.heap.size ≤ k ∧ k < w'.heap.size) w' v' xs ∧ Fr (fun _ => False) w w' := by
  subst hn0
  have hn := fun (w : World) => Lib.run_eql_slice_nil (P := Try.prog) w 22 5 (some p) xs.length c 0 0 Try.underlying22
  have hrow : Row 5 (fun k => k = w.heap.size) (w.alloc (.cells #[] 5)) (.slice (some ⟨w.heap.size, 0, none⟩) 0 0) [] :=
    ⟨⟨by simp, .inr ⟨w.heap.size, 0, #[], rfl, Nat.zero_le _, heap_alloc_new w _, Nat.le_refl _, by simp [maxLen], by simp, by simp⟩⟩, fun k hk => by simp [Value.ownBlock] at hk; exact hk.symm⟩
  have hf := Fr.alloc (fun _ => False) w (.cells #[] 5)
  have hs' := hs.fr hf (fun _ _ h => h)
  go_enter Try.func15, Try.ntmps15
  go_wp2_with (at_builtin; refine wpList_append_row _ rfl _ _ 22 5 rfl (.int .u8 0) 1 Try.underlying22 info_u8 rfl (.slice (some ⟨w.heap.size, 0, none⟩) 0 0) [] xs rfl hrow (some p) xs.length c rfl rfl hs' h1 (by simp; omega) (by simp; omega) ?_; intro v' w1 hr1 hf1)
  go_ret
  refine ⟨v', rfl, ?_, ?_⟩
  · have hz := hf1.size
    simp at hz
    exact hr1.mono fun k hk => by
      rcases hk with rfl | ⟨rfl, h2⟩
      · exact ⟨Nat.le_refl _, by omega⟩
      · exact ⟨by simp, h2⟩
  · exact hf.trans hf1 fun i hi => .inr (Nat.le_of_eq (by simpa [Value.ownBlock] using hi))

/-- Clone of a slice of bytes, whatever its address. -/
theorem clone_any (A : Option Addr) (n c : Nat) (xs : List Value) (w : World) (hs : Src w A xs) (hA : A = none → c = 0) (hn0 : n = xs.length) (h1 : ∀ u ∈ xs, u.oneCell' = true) (hlen : xs.length ≤ 1099511627776) :
    Calls Try.prog 15 #[.slice A n c] w fun e w' => ∃ v', e = .returned v' ∧ Row 5 (fun k => w.heap.size ≤ k ∧ k < w'.heap.size) w' v' xs ∧ Fr (fun _ => False) w w' := by
  cases A with
  | none =>
    have hx := hs.1 rfl
    have hc := hA rfl
    subst hx hc hn0
    exact (clone_nil w).mono fun e w' ⟨he, hw⟩ => ⟨_, he, Row.nil _ _ _, hw ▸ Fr.refl _ _⟩
  | some p => exact clone_some p n c xs w hs hn0 h1 hlen

end Go.Proofs.Ytboijleajaiiiaa
