/-
  What Parse of the program answers; the refusals.
-/
import Derived.Test.YtcfkmckdjappbaaDoorShape
import Derived.Test.YtcfkmckdjappbaaDoorNames
import Derived.Test.YtcfkmckdjappbaaDoorShelf
import Derived.Deep.RegionHeld3
namespace Go.Proofs.YtcfkmckdjappbaaDoor
open Go.RowKit Own
set_option linter.unusedVariables false
set_option linter.unusedSimpArgs false

def sl (a b : Nat) (l : List UInt8) : List UInt8 := (l.take b).drop a
theorem str_sl (l : List UInt8) (a b : Nat) : (str l).extract a b = str (sl a b l) := by
  apply ByteArray.ext
  apply Array.ext'
  simp [str, sl, ByteArray.data_extract, List.drop_take, Array.toList_extract]
theorem sl_len (l : List UInt8) (a b : Nat) (h : b ≤ l.length) : (sl a b l).length = b - a := by simp [sl]; omega
def encL (c : UInt8) : List UInt8 := (Utf8.encode c.toNat).data.toList
def dig0 (l : List UInt8) : UInt8 := if l.headD 0 = 32 then 48 else l.headD 0
def restL (l : List UInt8) : List UInt8 := encL (dig0 l) ++ sl 1 3 l ++ [120, 120, 120] ++ sl 6 26 l
def patL : List UInt8 := [57, 57, 45, 120, 120, 120, 45, 57, 57, 57, 57, 32, 57, 57, 58, 57, 57, 58, 57, 57, 32, 43, 57, 57, 57, 57]
def monI (l : List UInt8) : Int := Lib.index monLit.data.toList (sl 3 6 l)
def offI (l : List UInt8) : Int := if l.getD 21 0 = 43 then -(numI 0 (sl 22 24 l) * 3600 + numI 0 (sl 24 26 l) * 60) else numI 0 (sl 22 24 l) * 3600 + numI 0 (sl 24 26 l) * 60
def secsP (l : List UInt8) : Int × Bool := secPair (numI 0 (sl 7 11 l)) (monI l / 3 + 1) (numI 0 (sl 0 2 (restL l))) (numI 0 (sl 12 14 l)) (numI 0 (sl 15 17 l)) (numI 0 (sl 18 20 l))
def zoneB (l : List UInt8) : Bool := decide (numI 0 (sl 22 24 l) ≤ 14) && decide (numI 0 (sl 24 26 l) ≤ 59)
def parseP (l : List UInt8) : Int × Int :=
  if l.length ≠ 26 ∨ l.headD 0 = 48 then (0, 80)
  else if monI l < 0 ∨ 0 < monI l % 3 ∨ shL (restL l) ≠ patL then (0, 80)
  else momP ((secsP l).1 + offI l) ((secsP l).2 && zoneB l)
def parseV (p : Int × Int) : Value := .tuple #[.int .i64 p.1, .int .i64 p.2]

theorem parse_len (l : List UInt8) (w : World) (h : l.length ≠ 26) :
    Calls Tryd.prog 16 #[.string (str l)] w fun e w' => e = .returned (.tuple #[.int .i64 0, .int .i64 80]) ∧ w = w' := by
  have hsz := str_size l
  have e1 : ((l.length : Int) == 26) = false := by simp; omega
  go_enter Tryd.func16, Tryd.ntmps16
  go_wp2
  exact bodyPost_ret (v := .tuple #[.int .i64 0, .int .i64 80]) (by simp [results, Tryd.results16, go_sem]) rfl ⟨rfl, rfl⟩

theorem parse_zero (l : List UInt8) (w : World) (h : l.length = 26) (h0 : l.headD 0 = 48) :
    Calls Tryd.prog 16 #[.string (str l)] w fun e w' => e = .returned (.tuple #[.int .i64 0, .int .i64 80]) ∧ w = w' := by
  have hsz := str_size l
  have e1 : ((l.length : Int) == 26) = true := by simp; omega
  obtain ⟨c, l', rfl⟩ : ∃ c l', l = c :: l' := by
    cases l with
    | nil => simp at h
    | cons c l' => exact ⟨c, l', rfl⟩
  have e2 : (c.toNat : Int) = 48 := by simp at h0; rw [h0]; rfl
  have hix : ∀ h, (str (c :: l'))[0]'h = c := fun _ => rfl
  clear h0
  generalize str (c :: l') = s at *
  go_enter Tryd.func16, Tryd.ntmps16
  go_wp2
  exact bodyPost_ret (v := .tuple #[.int .i64 0, .int .i64 80]) (by simp [results, Tryd.results16, go_sem]) rfl ⟨rfl, rfl⟩

end Go.Proofs.YtcfkmckdjappbaaDoor
