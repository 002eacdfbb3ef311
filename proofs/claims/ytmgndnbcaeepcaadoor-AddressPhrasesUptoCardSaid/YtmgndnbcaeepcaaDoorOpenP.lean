/-
  What an argument of texts, of ints reads as.
-/
import Derived.Test.YtmgndnbcaeepcaaDoorOpenA
import Derived.Test.YtmgndnbcaeepcaaDoorPhrW
import Derived.SliceStrings
namespace Go.Proofs.YtmgndnbcaeepcaaDoor
open Go.RowKit Own Ad
open Go.ChangeShapes Go.WideShapes
set_option linter.unusedVariables false
set_option linter.unusedSimpArgs false


theorem open_strs {H : Type} {enc : TypeId × Value → H} {w : World} {base : Nat} {spare : Nat → Bool} {held : Bool} {fuel : Nat} {v : Value} {d : DataW H} {p : List MemPlace} {A : Option Addr} {n c : Nat} (hv : v = .slice A n c)
    (h : DataW.trod enc Tryd.prog w base spare held fuel 22 v.cells.toList = some (d, p)) :
    ∃ l : List (List UInt8), Src w A (sv l) ∧ n = l.length ∧ n ≤ c ∧ l.length + 1 ≤ Rows.uptoBulk d ∧ (∀ a ∈ l, a.length + 1 ≤ Rows.uptoBulk d) := by
  subst hv
  rcases open_strings Tryd.underlying22 Tryd.underlying9 (by kernel_rfl) h with ⟨hcs, hd⟩ | ⟨a, ln, c', ss, hcs, _, hl, hm, hs, hd, hcell, _⟩
  · simp [Value.cells] at hcs
    obtain ⟨rfl, rfl, rfl⟩ := hcs
    exact ⟨[], ⟨fun _ => rfl, fun p hp => by simp at hp⟩, rfl, Nat.le_refl _, Bulk.one_le d, by simp⟩
  · simp [Value.cells] at hcs
    obtain ⟨rfl, rfl, rfl⟩ := hcs
    have hzl : n ≤ ss.length := by rw [hs]; split <;> omega
    obtain ⟨rfl, _⟩ : d = _ ∧ p = _ := by simpa using hd
    refine ⟨(ss.take n).map fun s => s.data.toList, ⟨fun h => by simp at h, fun p hp j u hu => ?_⟩, by simp; omega, hl, ?_, ?_⟩
    · simp at hp
      subst hp
      simp only [sv, List.map_map, List.getElem?_map] at hu
      rw [List.getElem?_take] at hu
      split at hu
      · rename_i hj
        have hjz : j < ss.length := by omega
        rw [List.getElem?_eq_getElem hjz] at hu
        simp only [Option.map_some, Function.comp, Option.some.injEq] at hu
        rw [hcell j hjz, ← hu, str_back]
        simp [List.getElem?_eq_getElem hjz]
      · simp at hu
    · have := Bulk.length_le (strs (H := H) (ss.take n))
      simp only [Rows.uptoBulk]
      simp [strs] at this ⊢
      omega
    · intro b hb
      obtain ⟨s, hs2, rfl⟩ := List.mem_map.1 hb
      have hin : (DataW.lit (.string s.data.toList) : DataW H) ∈ strs (H := H) (ss.take n) := by
        unfold strs
        exact List.mem_map.2 ⟨s, hs2, rfl⟩
      have h5 := Bulk.part hin
      simp only [Rows.uptoBulk] at h5 ⊢
      omega

/-- An argument of ints. -/
theorem open_introw {H : Type} {enc : TypeId × Value → H} {w : World} {base : Nat} {spare : Nat → Bool} {held : Bool} {fuel : Nat} {v : Value} {d : DataW H} {p : List MemPlace} {A : Option Addr} {n c : Nat} (hv : v = .slice A n c)
    (h : DataW.trod enc Tryd.prog w base spare held fuel 23 v.cells.toList = some (d, p)) :
    ∃ l : List Int, Src w A (iv l) ∧ n = l.length ∧ n ≤ c ∧ l.length + 1 ≤ Rows.uptoBulk d ∧ (l = [] ∨ ∃ el sp, d = .slice el sp ∧ el.length = l.length) := by
  subst hv
  rcases open_ints Tryd.underlying23 Tryd.underlying3 (by kernel_rfl) h with ⟨hcs, hd⟩ | ⟨x, ln, c', zs, hcs, _, hl, hm, hz, hd, hcell, hwz⟩
  · simp [Value.cells] at hcs
    obtain ⟨rfl, rfl, rfl⟩ := hcs
    exact ⟨[], Src.empty, rfl, Nat.le_refl _, Bulk.one_le d, .inl rfl⟩
  · simp [Value.cells] at hcs
    obtain ⟨rfl, rfl, rfl⟩ := hcs
    have hzl : n ≤ zs.length := by rw [hz]; split <;> omega
    obtain ⟨rfl, _⟩ : d = _ ∧ p = _ := by simpa using hd
    refine ⟨zs.take n, ⟨fun h => by simp at h, fun p hp j u hu => ?_⟩, by simp; omega, hl, ?_, .inr ⟨_, _, rfl, by simp [lits]⟩⟩
    · simp at hp
      subst hp
      simp only [iv, List.getElem?_map] at hu
      rw [List.getElem?_take] at hu
      split at hu
      · rename_i hj
        have hjz : j < zs.length := by omega
        rw [List.getElem?_eq_getElem hjz] at hu
        simp at hu
        rw [hcell j hjz, ← hu]
        simp [List.getElem?_eq_getElem hjz]
      · simp at hu
    · have := Bulk.length_le (lits (H := H) IntKind.i64 (zs.take n))
      simp only [Rows.uptoBulk]
      simp [lits] at this ⊢
      omega

end Go.Proofs.YtmgndnbcaeepcaaDoor
