/-
  The reference's Unstuff.
-/
import Derived.Test.YtnphpinnkmndfaaDoorRNum
namespace Go.Proofs.YtnphpinnkmndfaaDoor
open Go.RowKit Own Dec
set_option linter.unusedVariables false
set_option linter.unusedSimpArgs false
set_option maxRecDepth 100000

/-- A line without its dot; true: the end. -/
def unL (l : List UInt8) : List UInt8 × Bool := if l = [46] then ([], true) else if l.head? = some 46 then (l.tail, false) else (l, false)
attribute [local go_sem] str_toList str_size

theorem runstuff_any (l : List UInt8) (w : World) (hl : l.length ≤ 9223372036854775806) :
    Calls Tryd.prog 17 #[.string (str l)] w fun e w' => e = .returned (.tuple #[.string (str (unL l).1), .bool (unL l).2]) ∧ w = w' := by
  have hsz := str_size l
  by_cases h : l = [46]
  · have e1 : (l == [46]) = true := by simpa using h
    have hu : unL l = ([], true) := by unfold unL; rw [if_pos h]
    clear h
    go_enter Tryd.func17, Tryd.ntmps17
    go_wp2
    exact bodyPost_ret (v := .tuple #[.string (str []), .bool true]) (by simp [results, Tryd.results17, go_sem]; rfl) rfl ⟨by rw [hu], rfl⟩
  have e1 : (l == [46]) = false := by simpa using h
  cases l with
  | nil =>
    have hu : unL [] = ([], false) := rfl
    go_enter Tryd.func17, Tryd.ntmps17
    go_wp2
    exact bodyPost_ret (v := .tuple #[.string (str []), .bool false]) (by simp [results, Tryd.results17, go_sem]) rfl ⟨by rw [hu], rfl⟩
  | cons c r =>
    have e2 : decide (0 < ((c :: r).length : Int)) = true := decide_eq_true (by simp <;> omega)
    have hix : ∀ h, (str (c :: r))[0]'h = c := fun _ => rfl
    have hex : (str (c :: r)).extract 1 (r.length + 1) = str r := by
      apply ByteArray.ext
      apply Array.ext'
      simp [str, ByteArray.data_extract, Array.toList_extract]
    by_cases hc : c = 46
    · have e3 : ((c.toNat : Int) == 46) = true := by rw [hc]; rfl
      have hu : unL (c :: r) = (r, false) := by unfold unL; rw [if_neg h, hc]; rfl
      clear h
      have e1s : ((str (c :: r)).toList == [46]) = false := by rw [str_toList]; exact e1
      generalize hs : str (c :: r) = s at *
      have hsz2 : s.size = r.length + 1 := by rw [hsz]; rfl
      clear hs hc hsz
      go_enter Tryd.func17, Tryd.ntmps17
      go_wp2
      exact bodyPost_ret (v := .tuple #[.string (str r), .bool false]) (by simp [results, Tryd.results17, go_sem]) rfl ⟨by rw [hu], rfl⟩
    · have e3 : ((c.toNat : Int) == 46) = false := by
        rw [beq_eq_false_iff_ne]; intro h; exact hc (UInt8.toNat_inj.mp (by simpa using (by omega : c.toNat = 46)))
      have hu : unL (c :: r) = (c :: r, false) := by unfold unL; rw [if_neg h, if_neg (by simpa using hc)]
      clear h hc
      go_enter Tryd.func17, Tryd.ntmps17
      go_wp2
      exact bodyPost_ret (v := .tuple #[.string (str (c :: r)), .bool false]) (by simp [results, Tryd.results17, go_sem]) rfl ⟨by rw [hu], rfl⟩

end Go.Proofs.YtnphpinnkmndfaaDoor
