/-
  The reader of IMAP's commands: its block; what it leans on; must, takes, sees, sign.
-/
import Derived.Test.YtfdmdmahddjjmaaGreatDoorKIm
import Derived.Test.YtfdmdmahddjjmaaGreatDoorPkAd
import Derived.Test.YtfdmdmahddjjmaaGreatDoorKCase
import Derived.Test.YtfdmdmahddjjmaaGreatDoorShelfB
namespace Go.Proofs.YtfdmdmahddjjmaaGreatDoor
open Go.RowKit Own Im
set_option linter.unusedVariables false
set_option linter.unusedSimpArgs false
set_option maxRecDepth 100000
attribute [local go_sem] str_toList str_size

/-- What is thrown. -/
abbrev thrown : List PanicEntry := [{ v := .iface 51 (.agg #[]), recovered := false }]
/-- What the walks ask of the world at a call's beginning. -/
structure Gd (w : World) : Prop where
  c : GoodC w
  lens : St.Lens w
  lt : 3 < w.heap.size
/-- The same, kept since all blocks were older than b. -/
def GoodI (b : Nat) (w : World) : Prop := ∃ w0, Gd w0 ∧ w0.heap.size ≤ b ∧ Below w0.heap.size w0 w
theorem GoodI.below {b B : Nat} {w w' : World} (h : GoodI b w) (hb : Below B w w') (hB : b ≤ B) : GoodI b w' := by
  obtain ⟨w0, g, h1, h2⟩ := h
  exact ⟨w0, g, h1, h2.trans (hb.mono (Nat.le_trans h1 hB))⟩
theorem GoodI.good {b : Nat} {w : World} (h : GoodI b w) : GoodC w := by
  obtain ⟨w0, g, h1, h2⟩ := h
  exact g.c.below h2
theorem GoodI.only {b : Nat} {w w' : World} (h : GoodI b w) (hb : Only b w w') : GoodI b w' := h.below hb.low (Nat.le_refl _)
/-- A block holds a reader's text. -/
structure RdI (w : World) (b : Nat) (s : Bt) : Prop where
  blk : w.heap[b]? = some (.cells #[.string (str s)] 54 (0, 0))
  len : s.length ≤ 100000000
  good : GoodI b w
section
variable {b : Nat} {w w' : World} {s : Bt}
theorem RdI.c (h : RdI w b s) : w.cell? ⟨b, 0, none⟩ = some (.string (str s)) := by rw [cells_at h.blk]; rfl
theorem RdI.free (h : RdI w b s) : w.frozen? ⟨b, 0, none⟩ = false := by unfold World.frozen?; rw [h.blk]; simp
theorem RdI.lt (h : RdI w b s) : b < w.heap.size := lt_of_block h.blk
theorem RdI.below (h : RdI w b s) (hb : Below w.heap.size w w') : RdI w' b s := ⟨(hb.block b h.lt).trans h.blk, h.len, h.good.below hb (Nat.le_of_lt h.lt)⟩
theorem RdI.below' {B : Nat} (h : RdI w b s) (hb : Below B w w') (hlt : b < B) : RdI w' b s := ⟨(hb.block b hlt).trans h.blk, h.len, h.good.below hb (Nat.le_of_lt hlt)⟩
theorem RdI.set (h : RdI w b s) (t : Bt) (ht : t.length ≤ s.length) : RdI (w.setCell ⟨b, 0, none⟩ (.string (str t))) b t := ⟨block_set h.blk _, Nat.le_trans ht h.len, h.good.only (Only.set _ _ _ _)⟩
end
/-- What a method of the reader does: it reads a value and leaves the rest, or it throws. -/
def Reads {α : Type} (b : Nat) (w : World) (val : α → Value → World → Prop) (r : Option (α × Bt)) (e : Ending) (w' : World) : Prop :=
  Only b w w' ∧ match r with
    | none => e = .panicked thrown
    | some q => ∃ v, e = .returned v ∧ val q.1 v w' ∧ RdI w' b q.2
/-- Values that lie in no memory. -/
abbrev vText : Bt → Value → World → Prop := fun t v _ => v = .string (str t)
abbrev vInt : Int → Value → World → Prop := fun n v _ => v = .int .i64 n
abbrev vFlags : Nat → Value → World → Prop := fun n v _ => v = .int .i64 n
abbrev vUnit : Unit → Value → World → Prop := fun _ v _ => v = .tuple #[]

theorem must_t (w : World) : Calls Tryz.prog 28 #[.bool true] w fun e w' => e = .returned (.tuple #[]) ∧ w' = w := by
  go_enter Tryz.func28, Tryz.ntmps28
  go_wp2
  go_end0
  exact ⟨rfl, rfl⟩
theorem must_f (w : World) : Calls Tryz.prog 28 #[.bool false] w fun e w' => e = .panicked thrown ∧ w' = w := by
  go_enter Tryz.func28, Tryz.ntmps28
  go_wp2
  exact ⟨rfl, rfl, rfl⟩
theorem must_any (c : Bool) (w : World) : Calls Tryz.prog 28 #[.bool c] w fun e w' => e = (if c = true then .returned (.tuple #[]) else .panicked thrown) ∧ w' = w := by
  cases c
  · exact must_f w
  · exact must_t w

theorem trim_drop (s t : Bt) : Lib.trimPrefix s t = (takes t s).2 := by
  unfold Lib.trimPrefix takes
  cases Lib.hasPrefix s t <;> simp
theorem takes_fst (t s : Bt) : (takes t s).1 = Lib.hasPrefix s t := by unfold takes; cases Lib.hasPrefix s t <;> rfl
theorem takes_len (t s : Bt) : (takes t s).2.length ≤ s.length := by unfold takes; split <;> simp
theorem takes_any (b : Nat) (s t : Bt) (w : World) (h : RdI w b s) :
    Calls Tryz.prog 26 #[.pointer (some ⟨b, 0, none⟩), .string (str t)] w fun e w' => e = .returned (.bool (takes t s).1) ∧ RdI w' b (takes t s).2 ∧ Only b w w' := by
  have hcp : ∀ W : World, Calls Tryz.prog 48 #[.string (str s), .string (str t)] W fun e w' => e = .returned (.tuple #[.string (str (takes t s).2), .bool (takes t s).1]) ∧ w' = W := fun W => by
    refine (Tryz.strings_CutPrefix (str s) (str t) W).mono ?_
    rintro e w' ⟨rfl, rfl⟩
    refine ⟨?_, rfl⟩
    rw [takes_fst, ← trim_drop]
    rfl
  have h0 := h.c
  have f0 := h.free
  have H := hid h
  clear h
  go_enter Tryz.func26, Tryz.ntmps26
  go_wp2_with (go_at_call 48; refine (hcp _).mono ?_; rintro e w1 ⟨rfl, rfl⟩)
  go_ret
  exact ⟨rfl, H.out.set _ (takes_len t s), Only.set _ _ _ _⟩

theorem sees_any (b : Nat) (s t : Bt) (w : World) (h : RdI w b s) :
    Calls Tryz.prog 91 #[.pointer (some ⟨b, 0, none⟩), .string (str t)] w fun e w' => e = .returned (.bool (Lib.hasPrefix s t)) ∧ w' = w := by
  have hcp : ∀ W : World, Calls Tryz.prog 121 #[.string (str s), .string (str t)] W fun e w' => e = .returned (.bool (Lib.hasPrefix s t)) ∧ w' = W := fun W => Tryz.strings_HasPrefix (str s) (str t) W
  have h0 := h.c
  have f0 := h.free
  clear h
  go_enter Tryz.func91, Tryz.ntmps91
  go_wp2_with (go_at_call 121; refine (hcp _).mono ?_; rintro e w1 ⟨rfl, rfl⟩)
  go_ret
  exact ⟨rfl, rfl⟩

theorem sign_any (b : Nat) (s t : Bt) (w : World) (h : RdI w b s) :
    Calls Tryz.prog 53 #[.pointer (some ⟨b, 0, none⟩), .string (str t)] w fun e w' => Reads b w vUnit ((sign t s).map fun q => ((), q)) e w' := by
  have htk := fun W hW => takes_any b s t W hW
  have H := hid h
  clear h
  cases hp : Lib.hasPrefix s t with
  | false =>
    have e1 : (takes t s).1 = false := (takes_fst t s).trans hp
    have e2 : sign t s = none := by unfold sign; rw [hp]; rfl
    rw [e1] at htk
    go_enter Tryz.func53, Tryz.ntmps53
    go_wp2_with (first
      | (go_at_call 26; refine (htk _ H.out).mono ?_; rintro e w1 ⟨rfl, r1, o1⟩; have R1 := hid r1; have O1 := hid o1; clear r1 o1)
      | (go_at_call 28; refine (must_f _).mono ?_; rintro e w2 ⟨rfl, rfl⟩))
    rw [e2]
    exact ⟨rfl, O1.out, rfl⟩
  | true =>
    have e1 : (takes t s).1 = true := (takes_fst t s).trans hp
    have e2 : sign t s = some (takes t s).2 := by unfold sign takes; rw [hp]; rfl
    rw [e1] at htk
    go_enter Tryz.func53, Tryz.ntmps53
    go_wp2_with (first
      | (go_at_call 26; refine (htk _ H.out).mono ?_; rintro e w1 ⟨rfl, r1, o1⟩; have R1 := hid r1; have O1 := hid o1; clear r1 o1)
      | (go_at_call 28; refine (must_t _).mono ?_; rintro e w2 ⟨rfl, rfl⟩))
    go_end0
    rw [e2]
    exact ⟨O1.out, _, rfl, rfl, R1.out⟩
end Go.Proofs.YtfdmdmahddjjmaaGreatDoor
