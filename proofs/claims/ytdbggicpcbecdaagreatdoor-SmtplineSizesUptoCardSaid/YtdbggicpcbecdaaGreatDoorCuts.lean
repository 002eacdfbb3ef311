/-
  Parts of texts.
-/
import Derived.Test.YtdbggicpcbecdaaGreatDoorAtom2
namespace Go.Proofs.YtdbggicpcbecdaaGreatDoor
open Go.RowKit Own
set_option linter.unusedVariables false
set_option linter.unusedSimpArgs false

theorem str_cut (l : List UInt8) (i j : Nat) : (str l).extract i j = str ((l.take j).drop i) := by
  apply ByteArray.ext
  apply Array.ext'
  simp [str, ByteArray.data_extract, Array.toList_extract, List.extract_eq_take_drop, List.drop_take]
theorem str_from (l : List UInt8) (i n : Nat) (hn : n = l.length) : (str l).extract i n = str (l.drop i) := by
  rw [str_cut, hn, List.take_length]
theorem str_upto (l : List UInt8) (n : Nat) : (str l).extract 0 n = str (l.take n) := by rw [str_cut, List.drop_zero]
theorem str_one {l : List UInt8} {i : Nat} {c : UInt8} (h : l[i]? = some c) : (str l).extract i (i + 1) = str [c] := by
  rw [str_cut, List.drop_take, drop_at h, Nat.add_sub_cancel_left]
  rfl
theorem u8_eq (c : UInt8) (n : Nat) (hn : n < 256) : (((c.toNat : Int) == (n : Int)) = true ↔ c = UInt8.ofNat n) := by
  rw [beq_iff_eq]
  constructor
  · intro h
    apply UInt8.toNat_inj.1
    rw [UInt8.toNat_ofNat', Nat.mod_eq_of_lt (by simpa using hn)]
    omega
  · rintro rfl
    rw [UInt8.toNat_ofNat', Nat.mod_eq_of_lt (by simpa using hn)]

end Go.Proofs.YtdbggicpcbecdaaGreatDoor
