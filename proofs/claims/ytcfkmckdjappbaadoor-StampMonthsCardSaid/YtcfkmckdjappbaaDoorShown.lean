/-
  The head of the stamp's laws: the document's examples hold.
-/
import Derived.Test.YtcfkmckdjappbaaDoorParse2
import Derived.Test.YtcfkmckdjappbaaDoorInner
namespace Go.Proofs.YtcfkmckdjappbaaDoor
open Go.RowKit Own
set_option linter.unusedVariables false
set_option linter.unusedSimpArgs false
set_option maxRecDepth 100000

/-- How far the walk is. -/
structure Tok (n : Nat) : Prop

/-- What the walks ask of the world. -/
def Good (w : World) : Prop := Lens w ∧ 0 < w.heap.size ∧ ∃ m, w.cell? ⟨1, 0, none⟩ = some (.int .i64 m)
theorem Good.below {w w' : World} (h : Good w) (hb : Below w.heap.size w w') : Good w' := by
  obtain ⟨h1, h2, m, h3⟩ := h
  exact ⟨h1.below hb h2, Nat.lt_of_lt_of_le h2 hb.size, m, keep_below hb rfl h3⟩
theorem keep_block {w w' : World} {g : Nat} {o : Obj} (h : w.heap[g]? = some o) (hb : Below w.heap.size w w') : w'.heap[g]? = some o := (hb.block g (lt_of_block h)).trans h
theorem keep_alloc {w : World} {g : Nat} {o : Obj} (h : w.heap[g]? = some o) (o' : Obj) : (w.alloc o').heap[g]? = some o := (Below.heap_alloc w o' g (lt_of_block h)).trans h

theorem day0 : Date.IsDay 0 2000 1 1 := ⟨by decide, by decide, by decide, by decide, by decide⟩
theorem day59 : Date.IsDay 59 2000 2 29 := ⟨by decide, by decide, by decide, by decide, by decide⟩
theorem parsP (l : List UInt8) (w : World) (hG : Good w) :
    Calls Tryd.prog 16 #[.string (str l)] w fun e w' => e = .returned (parseV (parseP l)) ∧ Below w.heap.size w w' := by
  obtain ⟨h1, h2, m, h3⟩ := hG
  exact parse_any l m w h3 h1 h2
theorem of0 (w : World) (hG : Good w) : Calls Tryd.prog 10 #[.int .i64 0] w fun e w' => e = .returned (.tuple #[.agg #[.int .i64 2000, .int .i64 1, .int .i64 1, .int .i64 0, .int .i64 0, .int .i64 0, .int .i64 6], .int .i64 0]) ∧ Below w.heap.size w w' := by
  refine (of_ok 0 w hG.1 hG.2.1 (by decide) (by decide)).mono ?_
  rintro e w1 ⟨y, m, d, hD, rfl, hb⟩
  obtain ⟨rfl, rfl, rfl⟩ := hD.uniq day0
  exact ⟨rfl, hb⟩
theorem of59 (w : World) (hG : Good w) : Calls Tryd.prog 10 #[.int .i64 5097600] w fun e w' => e = .returned (.tuple #[.agg #[.int .i64 2000, .int .i64 2, .int .i64 29, .int .i64 0, .int .i64 0, .int .i64 0, .int .i64 2], .int .i64 0]) ∧ Below w.heap.size w w' := by
  refine (of_ok 5097600 w hG.1 hG.2.1 (by decide) (by decide)).mono ?_
  rintro e w1 ⟨y, m, d, hD, rfl, hb⟩
  obtain ⟨rfl, rfl, rfl⟩ := hD.uniq day59
  exact ⟨rfl, hb⟩
theorem par1 : parseP [32, 49, 45, 74, 97, 110, 45, 50, 48, 48, 48, 32, 48, 49, 58, 48, 48, 58, 48, 48, 32, 43, 48, 49, 48, 48] = (0, 0) := by decide
theorem par2 : parseP [51, 48, 45, 70, 101, 98, 45, 50, 48, 48, 48, 32, 48, 48, 58, 48, 48, 58, 48, 48, 32, 43, 48, 48, 48, 48] = (0, 80) := by decide
theorem par3 : parseP [48, 49, 45, 74, 97, 110, 45, 50, 48, 48, 48, 32, 48, 48, 58, 48, 48, 58, 48, 48, 32, 43, 48, 48, 48, 48] = (0, 80) := by decide
theorem pars1 (w : World) (hG : Good w) : Calls Tryd.prog 16 #[.string { data := #[32, 49, 45, 74, 97, 110, 45, 50, 48, 48, 48, 32, 48, 49, 58, 48, 48, 58, 48, 48, 32, 43, 48, 49, 48, 48] }] w fun e w' => e = .returned (.tuple #[.int .i64 0, .int .i64 0]) ∧ Below w.heap.size w w' := by
  have := parsP [32, 49, 45, 74, 97, 110, 45, 50, 48, 48, 48, 32, 48, 49, 58, 48, 48, 58, 48, 48, 32, 43, 48, 49, 48, 48] w hG
  rw [par1] at this
  exact this
theorem pars2 (w : World) (hG : Good w) : Calls Tryd.prog 16 #[.string { data := #[51, 48, 45, 70, 101, 98, 45, 50, 48, 48, 48, 32, 48, 48, 58, 48, 48, 58, 48, 48, 32, 43, 48, 48, 48, 48] }] w fun e w' => e = .returned (.tuple #[.int .i64 0, .int .i64 80]) ∧ Below w.heap.size w w' := by
  have := parsP [51, 48, 45, 70, 101, 98, 45, 50, 48, 48, 48, 32, 48, 48, 58, 48, 48, 58, 48, 48, 32, 43, 48, 48, 48, 48] w hG
  rw [par2] at this
  exact this
theorem pars3 (w : World) (hG : Good w) : Calls Tryd.prog 16 #[.string { data := #[48, 49, 45, 74, 97, 110, 45, 50, 48, 48, 48, 32, 48, 48, 58, 48, 48, 58, 48, 48, 32, 43, 48, 48, 48, 48] }] w fun e w' => e = .returned (.tuple #[.int .i64 0, .int .i64 80]) ∧ Below w.heap.size w w' := by
  have := parsP [48, 49, 45, 74, 97, 110, 45, 50, 48, 48, 48, 32, 48, 48, 58, 48, 48, 58, 48, 48, 32, 43, 48, 48, 48, 48] w hG
  rw [par3] at this
  exact this
theorem hd0 : hdB 2000 1 1 0 0 0 6 = str [83, 97, 116, 44, 32, 48, 49, 32, 74, 97, 110, 32, 50, 48, 48, 48, 32, 48, 48, 58, 48, 48, 58, 48, 48, 32, 43, 48, 48, 48, 48] := by decide
theorem in0 : inB 2000 1 1 0 0 0 = str [32, 49, 45, 74, 97, 110, 45, 50, 48, 48, 48, 32, 48, 48, 58, 48, 48, 58, 48, 48, 32, 43, 48, 48, 48, 48] := by decide
theorem header0 (w : World) (hG : Good w) : Calls Tryd.prog 12 #[.int .i64 0] w fun e w' => e = .returned (.string (str [83, 97, 116, 44, 32, 48, 49, 32, 74, 97, 110, 32, 50, 48, 48, 48, 32, 48, 48, 58, 48, 48, 58, 48, 48, 32, 43, 48, 48, 48, 48])) ∧ Below w.heap.size w w' := by
  refine (header_ok 0 w hG.1 hG.2.1 (by decide) (by decide)).mono ?_
  rintro e w1 ⟨y, m, d, hD, rfl, hb⟩
  obtain ⟨rfl, rfl, rfl⟩ := hD.uniq day0
  exact ⟨congrArg (fun x => Ending.returned (.string x)) hd0, hb⟩
theorem internal0 (w : World) (hG : Good w) : Calls Tryd.prog 14 #[.int .i64 0] w fun e w' => e = .returned (.string (str [32, 49, 45, 74, 97, 110, 45, 50, 48, 48, 48, 32, 48, 48, 58, 48, 48, 58, 48, 48, 32, 43, 48, 48, 48, 48])) ∧ Below w.heap.size w w' := by
  refine (internal_ok 0 w hG.1 hG.2.1 (by decide) (by decide)).mono ?_
  rintro e w1 ⟨y, m, d, hD, rfl, hb⟩
  obtain ⟨rfl, rfl, rfl⟩ := hD.uniq day0
  exact ⟨congrArg (fun x => Ending.returned (.string x)) in0, hb⟩

attribute [local go_sem] str_toList

set_option maxHeartbeats 4000000 in
theorem shown_any (w : World) (hG : Good w) :
    Calls Tryd.prog 9 #[] w fun e w' => e = .returned (.bool true) ∧ Below w.heap.size w w' := by
  have tok0 : Tok 0 := ⟨⟩
  go_enter Tryd.func9, Tryd.ntmps9
  go_upto_region 7 with (first
    | (go_at_call 10; have t_ : Tok 0 := ‹Tok 0›; refine (of0 w hG).mono ?_; rintro e w1 ⟨rfl, c1⟩; have b1 := c1; clear t_; clear tok0; have tok1 : Tok 1 := ⟨⟩)
    | (go_at_call 10; have t_ : Tok 1 := ‹Tok 1›; refine (of59 _ (hG.below (b1.alloc b1.size _))).mono ?_; rintro e w2 ⟨rfl, c2⟩; have b2 := below_then (b1.alloc b1.size _) c2; clear t_; clear tok1; have tok2 : Tok 2 := ⟨⟩)
    | (go_at_call 10; have t_ : Tok 2 := ‹Tok 2›; refine (of_bad (-1) _ (.inl (by decide))).mono ?_; rintro e w3 ⟨rfl, c3⟩; simp only [time7]; have b3 := below_then (b2.alloc b2.size _) c3; clear t_; clear tok2; have tok3 : Tok 3 := ⟨⟩)
    | (go_at_call 16; have t_ : Tok 3 := ‹Tok 3›; refine (pars1 _ (hG.below (b3.alloc b3.size _))).mono ?_; rintro e w4 ⟨rfl, c4⟩; have b4 := below_then (b3.alloc b3.size _) c4; clear t_; clear tok3; have tok4 : Tok 4 := ⟨⟩)
    | (go_at_call 16; have t_ : Tok 4 := ‹Tok 4›; refine (pars2 _ (hG.below b4)).mono ?_; rintro e w5 ⟨rfl, c5⟩; have b5 := below_then b4 c5; clear t_; clear tok4; have tok5 : Tok 5 := ⟨⟩)
    | (go_at_call 16; have t_ : Tok 5 := ‹Tok 5›; refine (pars3 _ (hG.below b5)).mono ?_; rintro e w6 ⟨rfl, c6⟩; have b6 := below_then b5 c6; clear t_; clear tok5; have tok6 : Tok 6 := ⟨⟩))
  have B1 : w6.heap[w1.heap.size]? = some (.cells #[.int .i64 2000, .int .i64 1, .int .i64 1, .int .i64 0, .int .i64 0, .int .i64 0, .int .i64 6] 24 (0, 0)) := keep_block (keep_block (keep_block (keep_alloc (keep_block (keep_alloc (keep_block (heap_alloc_new w1 _) c2) _) c3) _) c4) c5) c6
  have B2 : w6.heap[w2.heap.size]? = some (.cells #[.int .i64 2000, .int .i64 2, .int .i64 29, .int .i64 0, .int .i64 0, .int .i64 0, .int .i64 2] 24 (0, 0)) := keep_block (keep_block (keep_block (keep_alloc (keep_block (heap_alloc_new w2 _) c3) _) c4) c5) c6
  have q10 := cells_at B1 0
  have q11 := cells_at B1 1
  have q12 := cells_at B1 2
  have q13 := cells_at B1 3
  have q14 := cells_at B1 4
  have q15 := cells_at B1 5
  have q16 := cells_at B1 6
  have q20 := cells_at B2 0
  have q21 := cells_at B2 1
  have q22 := cells_at B2 2
  have q23 := cells_at B2 3
  have q24 := cells_at B2 4
  have q25 := cells_at B2 5
  have q26 := cells_at B2 6
  have HB6 := hid b6
  clear c1 c2 c3 c4 c5 c6 b1 b2 b3 b4 b5 b6 B1 B2
  go_wp2_with (first
    | (go_at_call 12; refine (header0 _ (hG.below HB6.out)).mono ?_; rintro e w7 ⟨rfl, c7⟩)
    | (go_at_call 14; refine (internal0 _ (hG.below (below_then HB6.out c7))).mono ?_; rintro e w8 ⟨rfl, c8⟩))
  go_ret
  exact ⟨rfl, below_then (below_then HB6.out c7) c8⟩

end Go.Proofs.YtcfkmckdjappbaaDoor
