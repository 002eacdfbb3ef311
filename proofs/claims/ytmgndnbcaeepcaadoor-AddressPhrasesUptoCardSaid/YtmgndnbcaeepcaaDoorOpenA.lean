/-
  What an argument that is an address reads as.
-/
import Derived.Test.YtmgndnbcaeepcaaDoorOpen
import Derived.Test.YtmgndnbcaeepcaaDoorGood
import Derived.Lib.SmallJoins
namespace Go.Proofs.YtmgndnbcaeepcaaDoor
open Go.RowKit Own Ad
open Go.ChangeShapes Go.WideShapes Go.Joins
set_option linter.unusedVariables false
set_option linter.unusedSimpArgs false

theorem str_back (s : ByteArray) : str s.data.toList = s := by simp [str]
theorem open_addr {H : Type} {enc : TypeId × Value → H} {W : World} {base b0 : Nat} {spare : Nat → Bool} {held : Bool} {v : Value} {d : DataW H} {p : List MemPlace} (hv : Value.okWide Tryd.prog W .any b0 31 v)
    (h : DataW.Trod enc Tryd.prog W base spare held 31 v d p) : ∃ a : Ad, v = adV a ∧ a.1.length + a.2.1.length + a.2.2.length + 1 ≤ Rows.uptoBulk d := by
  obtain ⟨v0, v1, v2, y0, y1, y2, n, rfl, rfl, _, h0, h1, h2⟩ := open_agg3 Tryd.underlying31 (by kernel_rfl) (by kernel_rfl) hv h
  obtain ⟨s0, e0, rfl, _⟩ := DataW.trod_string Tryd.underlying9 h0
  obtain ⟨s1, e1, rfl, _⟩ := DataW.trod_string Tryd.underlying9 h1
  obtain ⟨s2, e2, rfl, _⟩ := DataW.trod_string Tryd.underlying9 h2
  simp only [List.cons.injEq, and_true] at e0 e1 e2
  subst e0 e1 e2
  refine ⟨(s0.data.toList, s1.data.toList, s2.data.toList), ?_, ?_⟩
  · unfold adV
    rw [str_back, str_back, str_back]
  · simp only [Rows.uptoBulk, Rows.uptoBulkAll]
    omega

end Go.Proofs.YtmgndnbcaeepcaaDoor
