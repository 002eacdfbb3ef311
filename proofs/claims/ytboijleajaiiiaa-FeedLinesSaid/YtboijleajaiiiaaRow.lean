/-
  What a slice among the arguments says of its cells, and how much of it there may be.
-/
import Derived.Test.YtboijleajaiiiaaBun
import Derived.SizedLaws
import Derived.ChangeSlices
import Derived.OpenShut
namespace Go.Proofs.Ytboijleajaiiiaa
open Go.RowKit Own
open Go.ChangeShapes Go.WideShapes
set_option linter.unusedVariables false
set_option linter.unusedSimpArgs false

def IsRow (k : IntKind) (w : World) (a : Option Addr) (len cap : Nat) (zs : List Int) : Prop :=
  (a = none ∧ len = 0 ∧ cap = 0 ∧ zs = []) ∨
  ∃ x, a = some x ∧ len ≤ cap ∧ cap ≤ maxLen ∧ zs.length = cap ∧ (∀ i, i < zs.length → w.cell? (x.add i) = some (.int k (zs.getD i 0))) ∧ ∀ n ∈ zs, (Lit.int k n).wf = true

theorem isRow_bounds {k : IntKind} {w : World} {a : Option Addr} {len cap : Nat} {zs : List Int} (h : IsRow k w a len cap zs) : len ≤ cap ∧ cap ≤ maxLen ∧ (a = none → len = 0 ∧ cap = 0) := by
  rcases h with ⟨rfl, rfl, rfl, rfl⟩ | ⟨x, rfl, h1, h2, _⟩
  · exact ⟨Nat.le_refl _, by simp [maxLen], fun _ => ⟨rfl, rfl⟩⟩
  · exact ⟨h1, h2, fun h => by simp at h⟩

theorem isRow_bytes {w : World} {a : Option Addr} {len cap : Nat} {zs : List Int} (h : IsRow .u8 w a len cap zs) : ∃ bs : List UInt8, Src w a (bv bs) ∧ len = bs.length := by
  rcases h with ⟨rfl, rfl, rfl, rfl⟩ | ⟨x, rfl, h1, h2, h3, h4, h5⟩
  · exact ⟨[], Src.empty, rfl⟩
  · refine ⟨(zs.take len).map fun n => UInt8.ofNat n.toNat, ⟨fun h => by simp at h, fun p hp j u hu => ?_⟩, by simp; omega⟩
    simp at hp
    subst hp
    simp only [bv, List.map_map, List.getElem?_map] at hu
    rw [List.getElem?_take] at hu
    split at hu
    · rename_i hj
      have hjz : j < zs.length := by omega
      rw [List.getElem?_eq_getElem hjz] at hu
      simp at hu
      have hc := h4 j hjz
      have hw := h5 _ (List.getElem_mem hjz)
      rw [hc, ← hu]
      have hh := bounds_u8 hw
      simp only [List.getD_eq_getElem?_getD, List.getElem?_eq_getElem hjz, Option.getD_some]
      congr 2
      omega
    · simp at hu


theorem isRow_ints {w : World} {a : Option Addr} {len cap : Nat} {zs : List Int} (h : IsRow .i64 w a len cap zs) : Src w a (iv (zs.take len)) ∧ len = (zs.take len).length ∧ ∀ x ∈ zs.take len, -9223372036854775808 ≤ x ∧ x ≤ 9223372036854775807 := by
  rcases h with ⟨rfl, rfl, rfl, rfl⟩ | ⟨x, rfl, h1, h2, h3, h4, h5⟩
  · exact ⟨Src.empty, rfl, fun x hx => by simp at hx⟩
  · refine ⟨⟨fun h => by simp at h, fun p hp j u hu => ?_⟩, by simp; omega, fun n hn => ?_⟩
    · simp at hp
      subst hp
      simp only [iv, List.getElem?_map] at hu
      rw [List.getElem?_take] at hu
      split at hu
      · rename_i hj
        have hjz : j < zs.length := by omega
        rw [List.getElem?_eq_getElem hjz] at hu
        simp at hu
        rw [h4 j hjz, ← hu]
        simp [List.getElem?_eq_getElem hjz]
      · simp at hu
    · have := bounds_i64 (h5 n (List.mem_of_mem_take hn))
      omega

end Go.Proofs.Ytboijleajaiiiaa
