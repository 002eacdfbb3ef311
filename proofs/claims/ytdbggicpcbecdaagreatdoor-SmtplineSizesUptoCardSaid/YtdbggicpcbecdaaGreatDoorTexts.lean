/-
  Texts split and cut.
-/
import Derived.Test.YtdbggicpcbecdaaGreatDoorAtom2
import Derived.Test.YtdbggicpcbecdaaGreatDoorGBuf
import Derived.Lib.Split
namespace Go.Proofs.YtdbggicpcbecdaaGreatDoor
open Go.RowKit Own Ad
set_option linter.unusedVariables false
set_option linter.unusedSimpArgs false
set_option maxRecDepth 100000

/-- What the walks ask of the world. -/
structure GoodA (w : World) : Prop where
  max : ∃ m, w.cell? ⟨0, 0, none⟩ = some (.int .i64 m)
theorem GoodA.below {w w' : World} (h : GoodA w) (hb : Below w.heap.size w w') : GoodA w' := by
  obtain ⟨m, h3⟩ := h
  exact ⟨m, keep_below hb rfl h3⟩
theorem below_dn' (w : World) (q : Nat) : Below w.heap.size w (w.drewN q) := ⟨rfl, rfl, rfl, Nat.le_refl _, fun _ _ => rfl⟩

/-- A row of texts that is read only. -/
def SrcS (w : World) (A : Option Addr) (l : List (List UInt8)) : Prop := Src w A (l.map fun s => .string (str s))
theorem srcS_at {w : World} {p : Addr} {l : List (List UInt8)} (h : SrcS w (some p) l) {j : Nat} {x : List UInt8} (hx : l[j]? = some x) : w.cell? (p.add j) = some (.string (str x)) := h.2 p rfl j _ (by simp [hx])

theorem list_str (xs : List ByteArray) : (xs.map (·.data.toList)).map str = xs := by
  rw [List.map_map]
  conv => rhs; rw [← List.map_id xs]
  apply List.map_congr_left
  intro x _
  simp [str]
theorem splitB_str (c : UInt8) (l : List UInt8) : Lib.splitB (str [c]) 0 (Lib.countB (str l) (str [c])) (str l) = (Spl.splitL c l).map str := by
  have h := Lib.splitB_data (str [c]) 0 (Lib.countB (str l) (str [c])) (str l)
  have h2 := Spl.split_eq c l.length l (Nat.le_refl _)
  rw [← list_str (Lib.splitB _ _ _ _), h, ← h2]
  rfl
theorem split_any (c : UInt8) (l : List UInt8) (w : World) (hG : GoodA w) (hl : l.length ≤ 2147483648) :
    Calls Tryz.prog 21 #[.string (str l), .string (str [c])] w fun e w' => e = .returned (.slice (some ⟨w.heap.size, 0, none⟩) (Spl.splitL c l).length (Spl.splitL c l).length) ∧ SrcS w' (some ⟨w.heap.size, 0, none⟩) (Spl.splitL c l) ∧ Below w.heap.size w w' := by
  obtain ⟨m, hm⟩ := hG.max
  refine (Tryz.strings_Split (str l) (str [c]) m w (by rw [str_size]; omega) hm (by rw [str_size]; simp)).mono ?_
  rintro e w' ⟨rfl, rfl⟩
  have hlen : (Lib.splitB (str [c]) 0 (Lib.countB (str l) (str [c])) (str l)).length = Lib.countB (str l) (str [c]) + 1 := Lib.splitB_all (str [c]) (by rw [str_size]; simp) 0 _ _ rfl
  rw [splitB_str, List.length_map] at hlen
  rw [hlen, splitB_str, List.map_map]
  exact ⟨rfl, src_lit w _ _ _, (Below.refl _ _).alloc (Nat.le_refl _) _⟩
theorem cut_any (c : UInt8) (l : List UInt8) (w : World) (hG : GoodA w) (hl : l.length ≤ 2147483648) :
    Calls Tryz.prog 40 #[.string (str l), .string (str [c])] w fun e w' => e = .returned (.tuple #[.string (str (Lib.cut l [c]).1), .string (str (Lib.cut l [c]).2.1), .bool (Lib.cut l [c]).2.2]) ∧ Below w.heap.size w w' := by
  obtain ⟨m, hm⟩ := hG.max
  refine (Tryz.strings_Cut (str l) (str [c]) m w (by rw [str_size]; omega) hm).mono ?_
  rintro e w' ⟨rfl, q, rfl⟩
  exact ⟨rfl, below_dn' w q⟩


theorem cut_exact (c : UInt8) (l : List UInt8) (w : World) (hG : GoodA w) (hl : l.length ≤ 2147483648) :
    Calls Tryz.prog 40 #[.string (str l), .string (str [c])] w fun e w' => e = .returned (.tuple #[.string (str (Lib.cut l [c]).1), .string (str (Lib.cut l [c]).2.1), .bool (Lib.cut l [c]).2.2]) ∧ ∃ q, w' = w.drewN q := by
  obtain ⟨m, hm⟩ := hG.max
  refine (Tryz.strings_Cut (str l) (str [c]) m w (by rw [str_size]; omega) hm).mono ?_
  rintro e w' ⟨rfl, q, rfl⟩
  exact ⟨rfl, q, rfl⟩
theorem calls_named {P : Program} {f : FuncId} {args : Array Value} {w : World} {Q : Ending → World → Prop} (h : ∀ W, W = w → Calls P f args W Q) : Calls P f args w Q := h w rfl

end Go.Proofs.YtdbggicpcbecdaaGreatDoor
