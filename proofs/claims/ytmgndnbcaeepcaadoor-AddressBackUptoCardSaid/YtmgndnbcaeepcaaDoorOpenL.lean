/-
  What an argument that is a row of addresses reads as.
-/
import Derived.Test.YtmgndnbcaeepcaaDoorOpenA
import Derived.Test.YtmgndnbcaeepcaaDoorSrcA
import Derived.Deep.SlicePairs
namespace Go.Proofs.YtmgndnbcaeepcaaDoor
open Go.RowKit Own Ad
open Go.ChangeShapes Go.WideShapes Go.Joins
set_option linter.unusedVariables false
set_option linter.unusedSimpArgs false

theorem open_addrs {H : Type} {enc : TypeId × Value → H} {w : World} {base : Nat} {spare : Nat → Bool} {held : Bool} {fuel : Nat} {v : Value} {d : DataW H} {p : List MemPlace} {A : Option Addr} {n c : Nat} (hv : v = .slice A n c)
    (h : DataW.trod enc Tryd.prog w base spare held fuel 26 v.cells.toList = some (d, p)) :
    ∃ l : List Ad, SrcA w A l ∧ n = l.length ∧ n ≤ c ∧ l.length + 1 ≤ Rows.uptoBulk d ∧ (∀ a ∈ l, a.1.length + a.2.1.length + a.2.2.length + 1 ≤ Rows.uptoBulk d) := by
  subst hv
  rcases Go.Deep.open_slice Tryd.underlying26 h with ⟨hcs, hd⟩ | ⟨a, ln, c', m, k, D, Pl, hcs, _, hl, hm, hmm, hd, hx⟩
  · simp [Value.cells] at hcs
    obtain ⟨rfl, rfl, rfl⟩ := hcs
    exact ⟨[], ⟨fun _ => rfl, fun p hp => by cases hp⟩, rfl, Nat.le_refl _, Bulk.one_le d, by simp⟩
  · simp [Value.cells] at hcs
    obtain ⟨rfl, rfl, rfl⟩ := hcs
    have hzl : n ≤ m := by rw [hmm]; split <;> omega
    obtain ⟨rfl, _⟩ : d = _ ∧ p = _ := by simpa using hd
    have ce : Tryd.prog.cellsOf 31 = 3 := by kernel_rfl
    have each : ∀ i, i < m → ∃ r : Ad, w.cell? (a.add (i * 3)) = some (.string (str r.1)) ∧ w.cell? (a.add (i * 3 + 1)) = some (.string (str r.2.1)) ∧ w.cell? (a.add (i * 3 + 2)) = some (.string (str r.2.2)) ∧ r.1.length + r.2.1.length + r.2.2.length + 1 ≤ Rows.uptoBulk (D i) := by
      intro i hi
      obtain ⟨cs', h1, h2⟩ := hx i hi
      rw [ce] at h1
      obtain ⟨_, hlen, hcell⟩ := World.cells?_some h1
      obtain ⟨y0, y1, y2, n', hx', _, g0, g1, g2⟩ := Go.Deep.trod_struct3 Tryd.underlying31 h2
      match cs', hlen with
      | [v0, v1, v2], _ =>
        have g0' : DataW.trod enc Tryd.prog w base spare held n' 9 [v0] = some y0 := by simpa [show Tryd.prog.cellsOf 9 = 1 by kernel_rfl] using g0
        have g1' : DataW.trod enc Tryd.prog w base spare held n' 9 [v1] = some y1 := by simpa [show Tryd.prog.cellsOf 9 = 1 by kernel_rfl] using g1
        have g2' : DataW.trod enc Tryd.prog w base spare held n' 9 [v2] = some y2 := by simpa [show Tryd.prog.cellsOf 9 = 1 by kernel_rfl] using g2
        obtain ⟨s0, e0, rfl, _⟩ := DataW.trod_string Tryd.underlying9 g0'
        obtain ⟨s1, e1, rfl, _⟩ := DataW.trod_string Tryd.underlying9 g1'
        obtain ⟨s2, e2, rfl, _⟩ := DataW.trod_string Tryd.underlying9 g2'
        simp only [List.cons.injEq, and_true] at e0 e1 e2
        subst e0 e1 e2
        have f0 := hcell 0 (by omega)
        have f1 := hcell 1 (by omega)
        have f2 := hcell 2 (by omega)
        rw [Go.Deep.add_add] at f0 f1 f2
        simp only [Prod.mk.injEq] at hx'
        refine ⟨(s0.data.toList, s1.data.toList, s2.data.toList), ?_, ?_, ?_, ?_⟩
        · rw [str_back]; simpa using f0
        · rw [str_back]; simpa using f1
        · rw [str_back]; simpa using f2
        · rw [hx'.1]; simp only [Rows.uptoBulk, Rows.uptoBulkAll]; omega
    obtain ⟨f, hf⟩ := Go.Deep.choose_lt each
    refine ⟨(List.range n).map f, ⟨fun h => by simp at h, fun p hp j r hr => ?_⟩, by simp, hl, ?_, ?_⟩
    · simp at hp
      subst hp
      simp only [List.getElem?_map] at hr
      by_cases hj : j < n
      · rw [List.getElem?_range hj] at hr
        obtain rfl : f j = r := by simpa using hr
        obtain ⟨h1, h2, h3, _⟩ := hf j (by omega)
        exact ⟨h1, h2, h3⟩
      · rw [List.getElem?_eq_none (by simp; omega)] at hr
        simp at hr
    · have := Bulk.length_le ((List.range n).map D)
      simp only [Rows.uptoBulk]
      simp at this ⊢
      omega
    · intro r hr
      obtain ⟨i, hi, rfl⟩ := List.mem_map.1 hr
      have hi' := List.mem_range.1 hi
      have h4 := (hf i (by omega)).2.2.2
      have h5 := Bulk.part (d := D i) (l := (List.range n).map D) (List.mem_map.2 ⟨i, hi, rfl⟩)
      simp only [Rows.uptoBulk]
      omega

end Go.Proofs.YtmgndnbcaeepcaaDoor
