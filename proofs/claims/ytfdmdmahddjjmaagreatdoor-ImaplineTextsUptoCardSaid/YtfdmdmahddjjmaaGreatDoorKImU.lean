/-
  Parse's deferred call; its memory.
-/
import Derived.Test.YtfdmdmahddjjmaaGreatDoorKImR
import Derived.Test.YtfdmdmahddjjmaaGreatDoorKImS
import Derived.Defers
import Derived.Recover
import Derived.Tactics2
namespace Go.Proofs.YtfdmdmahddjjmaaGreatDoor
open Go.RowKit Own Im
set_option linter.unusedVariables false
set_option linter.unusedSimpArgs false
set_option maxRecDepth 100000
attribute [local go_sem] str_toList str_size

abbrev nilV : Value := .slice none 0 0
/-- A new command's rows. -/
abbrev v0 : CmV := ⟨nilV, nilV, nilV, nilV, nilV⟩
/-- Parse's own memory: the answer, the error, the tag. -/
structure PK (w : World) (X E T : Nat) (tag : Bt) (wx : World) : Prop where
  x : CmAt wx X {} v0
  e : wx.heap[E]? = some (.cells #[.int .i64 0] 31 (0, 0))
  t : wx.heap[T]? = some (.cells #[.string (str tag)] 9 (0, 0))
  low : Below w.heap.size w wx
theorem PK.next {w wx wy : World} {X E T b : Nat} {tag : Bt} (h : PK w X E T tag wx) (hb : Below b wx wy) (h1 : X < b) (h2 : E < b) (h3 : T < b) (h4 : w.heap.size ≤ b) : PK w X E T tag wy :=
  ⟨(hb.block X h1).trans h.x, (hb.block E h2).trans h.e, (hb.block T h3).trans h.t, h.low.trans (hb.mono h4)⟩
theorem PK.grow {w wx wy : World} {X E T : Nat} {tag : Bt} (h : PK w X E T tag wx) (hb : Below wx.heap.size wx wy) : PK w X E T tag wy :=
  h.next hb h.x.lt (lt_of_block h.e) (lt_of_block h.t) h.low.size
/-- What Parse answers. -/
def ParsePost (w : World) (q : Cm × Int) (e : Ending) (w' : World) : Prop :=
  ∃ v, e = .returned (.tuple #[.agg (cmC q.1 v), .int .i64 q.2]) ∧ CmRows w.heap.size w' q.1 v ∧ Below w.heap.size w w'
theorem CmRows.none {B : Nat} {w : World} {x : Cm} (h : B ≤ w.heap.size) (h1 : x.set = []) (h2 : x.names = []) (h3 : x.items = []) (h4 : x.keys = []) (h5 : x.lit = []) : CmRows B w x v0 :=
  ⟨by rw [h1]; exact Sq.RBuf.nil h, by rw [h2]; exact SBuf.nil h, by rw [h3]; exact vItems.nil h, by rw [h4]; exact vKeys.nil h, by rw [h5]; exact LBuf.nil h⟩

/-- The fourteen cells of a command, written one behind the other. -/
abbrev fill (w : World) (c : Nat) (a0 a1 a2 a3 a4 a5 a6 a7 a8 a9 a10 a11 a12 a13 : Value) : World := ((((((((((((((w.setCell ⟨c, 0, none⟩ a0).setCell ⟨c, 1, none⟩ a1).setCell ⟨c, 2, none⟩ a2).setCell ⟨c, 3, none⟩ a3).setCell ⟨c, 4, none⟩ a4).setCell ⟨c, 5, none⟩ a5).setCell ⟨c, 6, none⟩ a6).setCell ⟨c, 7, none⟩ a7).setCell ⟨c, 8, none⟩ a8).setCell ⟨c, 9, none⟩ a9).setCell ⟨c, 10, none⟩ a10).setCell ⟨c, 11, none⟩ a11).setCell ⟨c, 12, none⟩ a12).setCell ⟨c, 13, none⟩ a13)
theorem fill_at {w : World} {c : Nat} {x : Cm} {v : CmV} (h : CmAt w c x v) (a0 a1 a2 a3 a4 a5 a6 a7 a8 a9 a10 a11 a12 a13 : Value) : (fill w c a0 a1 a2 a3 a4 a5 a6 a7 a8 a9 a10 a11 a12 a13).heap[c]? = some (.cells #[a0, a1, a2, a3, a4, a5, a6, a7, a8, a9, a10, a11, a12, a13] 30 (0, 0)) := by
  have h0 : (w.setCell ⟨c, 0, none⟩ a0).heap[c]? = some (.cells #[a0, (.string (str x.word)), (.bool x.uid), v.set, (.string (str x.box)), (.string (str x.dest)), v.names, (.int .i64 x.flags), (.int .i64 x.mode), (.bool x.silent), v.items, v.keys, (.int .i64 x.date), v.lit] 30 (0, 0)) := block_set h a0
  have h1 : ((w.setCell ⟨c, 0, none⟩ a0).setCell ⟨c, 1, none⟩ a1).heap[c]? = some (.cells #[a0, a1, (.bool x.uid), v.set, (.string (str x.box)), (.string (str x.dest)), v.names, (.int .i64 x.flags), (.int .i64 x.mode), (.bool x.silent), v.items, v.keys, (.int .i64 x.date), v.lit] 30 (0, 0)) := block_set h0 a1
  have h2 : (((w.setCell ⟨c, 0, none⟩ a0).setCell ⟨c, 1, none⟩ a1).setCell ⟨c, 2, none⟩ a2).heap[c]? = some (.cells #[a0, a1, a2, v.set, (.string (str x.box)), (.string (str x.dest)), v.names, (.int .i64 x.flags), (.int .i64 x.mode), (.bool x.silent), v.items, v.keys, (.int .i64 x.date), v.lit] 30 (0, 0)) := block_set h1 a2
  have h3 : ((((w.setCell ⟨c, 0, none⟩ a0).setCell ⟨c, 1, none⟩ a1).setCell ⟨c, 2, none⟩ a2).setCell ⟨c, 3, none⟩ a3).heap[c]? = some (.cells #[a0, a1, a2, a3, (.string (str x.box)), (.string (str x.dest)), v.names, (.int .i64 x.flags), (.int .i64 x.mode), (.bool x.silent), v.items, v.keys, (.int .i64 x.date), v.lit] 30 (0, 0)) := block_set h2 a3
  have h4 : (((((w.setCell ⟨c, 0, none⟩ a0).setCell ⟨c, 1, none⟩ a1).setCell ⟨c, 2, none⟩ a2).setCell ⟨c, 3, none⟩ a3).setCell ⟨c, 4, none⟩ a4).heap[c]? = some (.cells #[a0, a1, a2, a3, a4, (.string (str x.dest)), v.names, (.int .i64 x.flags), (.int .i64 x.mode), (.bool x.silent), v.items, v.keys, (.int .i64 x.date), v.lit] 30 (0, 0)) := block_set h3 a4
  have h5 : ((((((w.setCell ⟨c, 0, none⟩ a0).setCell ⟨c, 1, none⟩ a1).setCell ⟨c, 2, none⟩ a2).setCell ⟨c, 3, none⟩ a3).setCell ⟨c, 4, none⟩ a4).setCell ⟨c, 5, none⟩ a5).heap[c]? = some (.cells #[a0, a1, a2, a3, a4, a5, v.names, (.int .i64 x.flags), (.int .i64 x.mode), (.bool x.silent), v.items, v.keys, (.int .i64 x.date), v.lit] 30 (0, 0)) := block_set h4 a5
  have h6 : (((((((w.setCell ⟨c, 0, none⟩ a0).setCell ⟨c, 1, none⟩ a1).setCell ⟨c, 2, none⟩ a2).setCell ⟨c, 3, none⟩ a3).setCell ⟨c, 4, none⟩ a4).setCell ⟨c, 5, none⟩ a5).setCell ⟨c, 6, none⟩ a6).heap[c]? = some (.cells #[a0, a1, a2, a3, a4, a5, a6, (.int .i64 x.flags), (.int .i64 x.mode), (.bool x.silent), v.items, v.keys, (.int .i64 x.date), v.lit] 30 (0, 0)) := block_set h5 a6
  have h7 : ((((((((w.setCell ⟨c, 0, none⟩ a0).setCell ⟨c, 1, none⟩ a1).setCell ⟨c, 2, none⟩ a2).setCell ⟨c, 3, none⟩ a3).setCell ⟨c, 4, none⟩ a4).setCell ⟨c, 5, none⟩ a5).setCell ⟨c, 6, none⟩ a6).setCell ⟨c, 7, none⟩ a7).heap[c]? = some (.cells #[a0, a1, a2, a3, a4, a5, a6, a7, (.int .i64 x.mode), (.bool x.silent), v.items, v.keys, (.int .i64 x.date), v.lit] 30 (0, 0)) := block_set h6 a7
  have h8 : (((((((((w.setCell ⟨c, 0, none⟩ a0).setCell ⟨c, 1, none⟩ a1).setCell ⟨c, 2, none⟩ a2).setCell ⟨c, 3, none⟩ a3).setCell ⟨c, 4, none⟩ a4).setCell ⟨c, 5, none⟩ a5).setCell ⟨c, 6, none⟩ a6).setCell ⟨c, 7, none⟩ a7).setCell ⟨c, 8, none⟩ a8).heap[c]? = some (.cells #[a0, a1, a2, a3, a4, a5, a6, a7, a8, (.bool x.silent), v.items, v.keys, (.int .i64 x.date), v.lit] 30 (0, 0)) := block_set h7 a8
  have h9 : ((((((((((w.setCell ⟨c, 0, none⟩ a0).setCell ⟨c, 1, none⟩ a1).setCell ⟨c, 2, none⟩ a2).setCell ⟨c, 3, none⟩ a3).setCell ⟨c, 4, none⟩ a4).setCell ⟨c, 5, none⟩ a5).setCell ⟨c, 6, none⟩ a6).setCell ⟨c, 7, none⟩ a7).setCell ⟨c, 8, none⟩ a8).setCell ⟨c, 9, none⟩ a9).heap[c]? = some (.cells #[a0, a1, a2, a3, a4, a5, a6, a7, a8, a9, v.items, v.keys, (.int .i64 x.date), v.lit] 30 (0, 0)) := block_set h8 a9
  have h10 : (((((((((((w.setCell ⟨c, 0, none⟩ a0).setCell ⟨c, 1, none⟩ a1).setCell ⟨c, 2, none⟩ a2).setCell ⟨c, 3, none⟩ a3).setCell ⟨c, 4, none⟩ a4).setCell ⟨c, 5, none⟩ a5).setCell ⟨c, 6, none⟩ a6).setCell ⟨c, 7, none⟩ a7).setCell ⟨c, 8, none⟩ a8).setCell ⟨c, 9, none⟩ a9).setCell ⟨c, 10, none⟩ a10).heap[c]? = some (.cells #[a0, a1, a2, a3, a4, a5, a6, a7, a8, a9, a10, v.keys, (.int .i64 x.date), v.lit] 30 (0, 0)) := block_set h9 a10
  have h11 : ((((((((((((w.setCell ⟨c, 0, none⟩ a0).setCell ⟨c, 1, none⟩ a1).setCell ⟨c, 2, none⟩ a2).setCell ⟨c, 3, none⟩ a3).setCell ⟨c, 4, none⟩ a4).setCell ⟨c, 5, none⟩ a5).setCell ⟨c, 6, none⟩ a6).setCell ⟨c, 7, none⟩ a7).setCell ⟨c, 8, none⟩ a8).setCell ⟨c, 9, none⟩ a9).setCell ⟨c, 10, none⟩ a10).setCell ⟨c, 11, none⟩ a11).heap[c]? = some (.cells #[a0, a1, a2, a3, a4, a5, a6, a7, a8, a9, a10, a11, (.int .i64 x.date), v.lit] 30 (0, 0)) := block_set h10 a11
  have h12 : (((((((((((((w.setCell ⟨c, 0, none⟩ a0).setCell ⟨c, 1, none⟩ a1).setCell ⟨c, 2, none⟩ a2).setCell ⟨c, 3, none⟩ a3).setCell ⟨c, 4, none⟩ a4).setCell ⟨c, 5, none⟩ a5).setCell ⟨c, 6, none⟩ a6).setCell ⟨c, 7, none⟩ a7).setCell ⟨c, 8, none⟩ a8).setCell ⟨c, 9, none⟩ a9).setCell ⟨c, 10, none⟩ a10).setCell ⟨c, 11, none⟩ a11).setCell ⟨c, 12, none⟩ a12).heap[c]? = some (.cells #[a0, a1, a2, a3, a4, a5, a6, a7, a8, a9, a10, a11, a12, v.lit] 30 (0, 0)) := block_set h11 a12
  have h13 : ((((((((((((((w.setCell ⟨c, 0, none⟩ a0).setCell ⟨c, 1, none⟩ a1).setCell ⟨c, 2, none⟩ a2).setCell ⟨c, 3, none⟩ a3).setCell ⟨c, 4, none⟩ a4).setCell ⟨c, 5, none⟩ a5).setCell ⟨c, 6, none⟩ a6).setCell ⟨c, 7, none⟩ a7).setCell ⟨c, 8, none⟩ a8).setCell ⟨c, 9, none⟩ a9).setCell ⟨c, 10, none⟩ a10).setCell ⟨c, 11, none⟩ a11).setCell ⟨c, 12, none⟩ a12).setCell ⟨c, 13, none⟩ a13).heap[c]? = some (.cells #[a0, a1, a2, a3, a4, a5, a6, a7, a8, a9, a10, a11, a12, a13] 30 (0, 0)) := block_set h12 a13
  exact h13
theorem set_far {w : World} {c j k : Nat} (v : Value) (hk : k ≠ c) : (w.setCell ⟨c, j, none⟩ v).heap[k]? = w.heap[k]? := Below.heap_setCell w ⟨c, j, none⟩ v k hk
theorem fill_far {w : World} {c k : Nat} (hk : k ≠ c) (a0 a1 a2 a3 a4 a5 a6 a7 a8 a9 a10 a11 a12 a13 : Value) : (fill w c a0 a1 a2 a3 a4 a5 a6 a7 a8 a9 a10 a11 a12 a13).heap[k]? = w.heap[k]? := by
  unfold fill
  repeat rw [set_far _ hk]
theorem fill_size {w : World} {c : Nat} (a0 a1 a2 a3 a4 a5 a6 a7 a8 a9 a10 a11 a12 a13 : Value) : (fill w c a0 a1 a2 a3 a4 a5 a6 a7 a8 a9 a10 a11 a12 a13).heap.size = w.heap.size := by simp [fill]
theorem fill_below {B : Nat} {w w' : World} {c : Nat} (h : Below B w w') (hc : B ≤ c) (a0 a1 a2 a3 a4 a5 a6 a7 a8 a9 a10 a11 a12 a13 : Value) : Below B w (fill w' c a0 a1 a2 a3 a4 a5 a6 a7 a8 a9 a10 a11 a12 a13) := ((((((((((((((h.setCell (p := ⟨c, 0, none⟩) hc _).setCell (p := ⟨c, 1, none⟩) hc _).setCell (p := ⟨c, 2, none⟩) hc _).setCell (p := ⟨c, 3, none⟩) hc _).setCell (p := ⟨c, 4, none⟩) hc _).setCell (p := ⟨c, 5, none⟩) hc _).setCell (p := ⟨c, 6, none⟩) hc _).setCell (p := ⟨c, 7, none⟩) hc _).setCell (p := ⟨c, 8, none⟩) hc _).setCell (p := ⟨c, 9, none⟩) hc _).setCell (p := ⟨c, 10, none⟩) hc _).setCell (p := ⟨c, 11, none⟩) hc _).setCell (p := ⟨c, 12, none⟩) hc _).setCell (p := ⟨c, 13, none⟩) hc _)

theorem catch_idle (T X E : Addr) (w : World) :
    CallsD Tryz.prog 24 #[.pointer (some T), .pointer (some X), .pointer (some E)] .returning w fun e u' w' => e = .returned (.tuple #[]) ∧ u' = .returning ∧ w' = w := by
  refine callsD_of_wpS Tryz.func24 rfl fun c₀ cs hu => ?_
  apply wpS_seq
  apply wpS_region
  simp [wpOpsS, go_sem, recoverD, hu, Tryz.ntmps24, Exit.thenS]
  refine wpS_of_wp ?_
  go_wp2
  refine ⟨rfl, .returning, ?_, .tuple #[], by simp [results, Tryz.results24, go_sem], rfl, rfl, rfl⟩
  cases c₀
  simp_all

theorem assert_wrong (v : Value) (W : World) : (Instr.typeAssert (.iface 51 v) 20 51 true).run Tryz.prog W = .ok (.tuple #[v, .bool true]) W := by kernel_rfl
/-- What was thrown, caught. -/
abbrev caught : List PanicEntry := [{ v := .iface 51 (.agg #[]), recovered := true }]
theorem catch_thrown {w : World} {X E T : Nat} {tag : Bt} {wx : World} (h : PK w X E T tag wx) (hX : w.heap.size ≤ X) (hE : w.heap.size ≤ E) (hXE : X ≠ E) :
    CallsD Tryz.prog 24 #[.pointer (some ⟨T, 0, none⟩), .pointer (some ⟨X, 0, none⟩), .pointer (some ⟨E, 0, none⟩)] (.panicking thrown) wx fun e u' w' =>
      e = .returned (.tuple #[]) ∧ u' = .panicking caught ∧ CmAt w' X { tag := tag } v0 ∧ w'.heap[E]? = some (.cells #[.int .i64 160] 31 (0, 0)) ∧ Below w.heap.size w w' := by
  have has := fun W => assert_wrong (.agg #[]) W
  have H := hid h
  have ht : wx.cell? ⟨T, 0, none⟩ = some (.string (str tag)) := by rw [cells_at h.t]; rfl
  have a1 := (Below.refl wx.heap.size wx).alloc (Nat.le_refl _) (.cells #[] 51)
  have t1 := keep_below a1 rfl ht
  have k1 := h.x.below a1
  have e1 := (a1.block E (lt_of_block h.e)).trans h.e
  have x0 := k1.c0
  have x1 := k1.c1
  have x2 := k1.c2
  have x3 := k1.c3
  have x4 := k1.c4
  have x5 := k1.c5
  have x6 := k1.c6
  have x7 := k1.c7
  have x8 := k1.c8
  have x9 := k1.c9
  have x10 := k1.c10
  have x11 := k1.c11
  have x12 := k1.c12
  have x13 := k1.c13
  have fx := k1.free
  have e0 := cells_at e1 0
  have fe := free_at e1 0
  have K1 := hid k1
  have E1 := hid e1
  have A1 := hid a1
  clear h k1 e1 a1
  refine callsD_of_wpS Tryz.func24 rfl fun c₀ cs hu => ?_
  apply wpS_seq
  apply wpS_region
  simp [wpOpsS, go_sem, recoverD, hu, Tryz.ntmps24, Exit.thenS]
  refine wpS_of_wp ?_
  go_wp2
  refine ⟨rfl, .panicking caught, rfl, .tuple #[], by simp [results, Tryz.results24, go_sem], rfl, rfl, ?_, ?_, ?_⟩
  · exact (set_far _ hXE).trans (fill_at K1.out _ _ _ _ _ _ _ _ _ _ _ _ _ _)
  · exact block_set ((fill_far (Ne.symm hXE) _ _ _ _ _ _ _ _ _ _ _ _ _ _).trans E1.out) _
  · exact (fill_below (H.out.low.trans (A1.out.mono H.out.low.size)) hX _ _ _ _ _ _ _ _ _ _ _ _ _ _).setCell (p := ⟨E, 0, none⟩) hE _
end Go.Proofs.YtfdmdmahddjjmaaGreatDoor
