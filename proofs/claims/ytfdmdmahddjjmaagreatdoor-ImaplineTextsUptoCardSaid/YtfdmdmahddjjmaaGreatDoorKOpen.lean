/-
  What an argument of bytes or a text reads as; how much the second form's bound lets in.
-/
import Derived.Test.YtfdmdmahddjjmaaGreatDoorRows
import Derived.Test.YtfdmdmahddjjmaaGreatDoorPkOwn
import Derived.ChangeSlices
import Derived.OpenShut
import Derived.SizedLaws
import Derived.ShutString
namespace Go.Proofs.YtfdmdmahddjjmaaGreatDoor
open Go.RowKit Own
open Go.ChangeShapes Go.WideShapes
set_option linter.unusedVariables false
set_option linter.unusedSimpArgs false

namespace Bulk
theorem one_le {H : Type} (d : DataW H) : 1 ≤ Rows.uptoBulk d := by
  cases d with
  | lit l => cases l <;> simp [Rows.uptoBulk]
  | _ => simp [Rows.uptoBulk]
theorem length_le {H : Type} (l : List (DataW H)) : l.length ≤ Rows.uptoBulkAll l := by
  induction l with
  | nil => simp [Rows.uptoBulkAll]
  | cons x r ih => have := one_le x; simp only [Rows.uptoBulkAll, List.length_cons]; omega
theorem part {H : Type} {d : DataW H} {l : List (DataW H)} (h : d ∈ l) : Rows.uptoBulk d ≤ Rows.uptoBulkAll l := by
  induction l with
  | nil => cases h
  | cons x r ih =>
    simp only [Rows.uptoBulkAll]
    cases List.mem_cons.1 h with
    | inl e => subst e; omega
    | inr e => have := ih e; omega
theorem bound {H : Type} {l : List (DataW H)} (hk : Rows.uptoSmall H l = true) {d : DataW H} (h : d ∈ l) : Rows.uptoBulk d ≤ 1048576 :=
  Nat.le_trans (part h) (of_decide_eq_true hk)
theorem text {H : Type} {l : List (DataW H)} (hk : Rows.uptoSmall H l = true) {s : List UInt8} (h : DataW.lit (.string s) ∈ l) : s.length ≤ 1048576 := by
  have := bound hk h
  simp only [Rows.uptoBulk] at this
  omega
end Bulk

/-- An argument of bytes. -/
theorem open_bytes {H : Type} {enc : TypeId × Value → H} {w : World} {base : Nat} {spare : Nat → Bool} {held : Bool} {fuel : Nat} {v : Value} {d : DataW H} {p : List MemPlace} {A : Option Addr} {n c : Nat} (hv : v = .slice A n c)
    (h : DataW.trod enc Tryz.prog w base spare held fuel 28 v.cells.toList = some (d, p)) :
    ∃ bs : List UInt8, Src w A (bv bs) ∧ n = bs.length ∧ n ≤ c ∧ bs.length + 1 ≤ Rows.uptoBulk d := by
  subst hv
  rcases open_ints Tryz.underlying28 Tryz.underlying5 (by kernel_rfl) h with ⟨hcs, hd⟩ | ⟨x, l, c', zs, hcs, _, hl, hm, hz, hd, hcell, hwz⟩
  · simp [Value.cells] at hcs
    obtain ⟨rfl, rfl, rfl⟩ := hcs
    exact ⟨[], Src.empty, rfl, Nat.le_refl _, Bulk.one_le d⟩
  · simp [Value.cells] at hcs
    obtain ⟨rfl, rfl, rfl⟩ := hcs
    have hzl : n ≤ zs.length := by rw [hz]; split <;> omega
    obtain ⟨rfl, _⟩ : d = _ ∧ p = _ := by simpa using hd
    refine ⟨(zs.take n).map fun n => UInt8.ofNat n.toNat, ⟨fun h => by simp at h, fun p hp j u hu => ?_⟩, by simp; omega, hl, ?_⟩
    · simp at hp
      subst hp
      simp only [bv, List.map_map, List.getElem?_map] at hu
      rw [List.getElem?_take] at hu
      split at hu
      · rename_i hj
        have hjz : j < zs.length := by omega
        rw [List.getElem?_eq_getElem hjz] at hu
        simp at hu
        have hc := hcell j hjz
        have hw := hwz _ (List.getElem_mem hjz)
        rw [hc, ← hu]
        have hh := bounds_u8 hw
        simp only [List.getD_eq_getElem?_getD, List.getElem?_eq_getElem hjz, Option.getD_some]
        congr 2
        omega
      · simp at hu
    · have := Bulk.length_le (lits (H := H) IntKind.u8 (zs.take n))
      simp only [Rows.uptoBulk]
      simp [lits] at this ⊢
      omega

end Go.Proofs.YtfdmdmahddjjmaaGreatDoor
