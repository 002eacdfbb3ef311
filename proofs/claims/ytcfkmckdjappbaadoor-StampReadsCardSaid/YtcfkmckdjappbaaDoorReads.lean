/-
  StampReads walked: any date and any text read as the reference's.
-/
import Derived.Test.YtcfkmckdjappbaaDoorShown
import Derived.Test.YtcfkmckdjappbaaDoorParEq
namespace Go.Proofs.YtcfkmckdjappbaaDoor
open Go.RowKit Own
set_option linter.unusedVariables false
set_option linter.unusedSimpArgs false
set_option maxRecDepth 100000

set_option maxHeartbeats 4000000 in
theorem reads_walk (y m d h mi s wd : Int) (t : ByteArray) (w : World) (hG : Good w) :
    Calls Tryd.prog 6 #[.agg #[.int .i64 y, .int .i64 m, .int .i64 d, .int .i64 h, .int .i64 mi, .int .i64 s, .int .i64 wd], .string t] w fun e w' => e = .returned (.bool true) ∧ Below w.heap.size w w' := by
  obtain ⟨l, rfl⟩ := str_list t
  have b0 := (Below.refl w.heap.size w).alloc (Nat.le_refl _) (.cells #[.int .i64 y, .int .i64 m, .int .i64 d, .int .i64 h, .int .i64 mi, .int .i64 s, .int .i64 wd] 24 (0, 0))
  have B0 := heap_alloc_new w (.cells #[.int .i64 y, .int .i64 m, .int .i64 d, .int .i64 h, .int .i64 mi, .int .i64 s, .int .i64 wd] 24 (0, 0))
  have G0 := hG.below b0
  have sec1 := fun w' (g : Good w') => second_any y m d h mi s wd w' g.1 g.2.1
  have sec2 := fun w' => rsecond_any y m d h mi s wd w'
  have par1 := fun w' (g : Good w') => parsP l w' g
  have par2 := fun w' => rparse_any l w'
  rw [← parse_eq l] at par2
  unfold time7 momOf at sec1 sec2
  unfold parseV at par1 par2
  generalize momP (secPair y m d h mi s).1 (secPair y m d h mi s).2 = r at *
  generalize parseP l = q at *
  generalize str l = t at *
  have HB0 := hid b0
  have HBL := hid B0
  clear b0 B0
  go_enter Tryd.func6, Tryd.ntmps6
  go_upto_region 2 with ((go_at_call 9; refine (shown_any _ G0).mono ?_; rintro e w1 ⟨rfl, c1⟩))
  have B1 := keep_block HBL.out c1
  have b1 := below_then HB0.out c1
  have q0 := cells_at B1 0
  have q1 := cells_at B1 1
  have q2 := cells_at B1 2
  have q3 := cells_at B1 3
  have q4 := cells_at B1 4
  have q5 := cells_at B1 5
  have q6 := cells_at B1 6
  have G1 := hG.below b1
  have HB1 := hid b1
  have HBL1 := hid B1
  clear HB0 HBL B1 b1 c1 G0
  go_upto_region 3 with ((go_at_call 17; refine (sec1 _ G1).mono ?_; rintro e w2 ⟨rfl, c2⟩))
  have B2 := keep_block HBL1.out c2
  have b2 := below_then HB1.out c2
  have p0 := cells_at B2 0
  have p1 := cells_at B2 1
  have p2 := cells_at B2 2
  have p3 := cells_at B2 3
  have p4 := cells_at B2 4
  have p5 := cells_at B2 5
  have p6 := cells_at B2 6
  have HB2 := hid b2
  clear HBL1 B2 b2 c2 q0 q1 q2 q3 q4 q5 q6 HB1
  go_wp2_with (first
    | (go_at_call 18; refine (sec2 _).mono ?_; rintro e w3 ⟨rfl, c3⟩; have b3 := below_then HB2.out c3; have G3 := hG.below b3)
    | (go_at_call 16; refine (par1 _ G3).mono ?_; rintro e w4 ⟨rfl, c4⟩; have b4 := below_then b3 c4)
    | (go_at_call 19; refine (par2 _).mono ?_; rintro e w5 ⟨rfl, c5⟩; have b5 := below_then b4 c5))
  go_ret
  exact ⟨rfl, b5⟩

/-- A date as it comes in: seven numbers. -/
theorem open_time {H : Type} {enc : TypeId × Value → H} {w : World} {base : Nat} {sp : Nat → Bool} {held : Bool} {W : World} {b : Nat} {v : Value} {d : DataW H} {ps : List MemPlace}
    (hv : Value.okWide Tryd.prog W .any b 24 v) (h : DataW.Trod enc Tryd.prog w base sp held 24 v d ps) : ∃ t0 t1 t2 t3 t4 t5 t6, v = .agg #[.int .i64 t0, .int .i64 t1, .int .i64 t2, .int .i64 t3, .int .i64 t4, .int .i64 t5, .int .i64 t6] := by
  obtain ⟨cs, rfl, hsz⟩ := Go.WideShapes.okWide_struct Tryd.underlying24 hv
  have c7 : Tryd.prog.cellsOf 24 = 7 := by kernel_rfl
  have c1 : Tryd.prog.cellsOf 3 = 1 := by kernel_rfl
  rw [c7] at hsz
  obtain ⟨fuel, hf⟩ := h
  obtain ⟨xs, n, rfl, _, _, hxl, hel⟩ := DataW.trod_struct Tryd.underlying24 hf
  have one : ∀ i, i < 7 → DataW.trod enc Tryd.prog w base sp held n 3 (((Value.agg cs).cells.toList.drop i).take (Tryd.prog.cellsOf 3)) = xs[i]? → ∃ k, ((cs.toList.drop i).take 1) = [Value.int .i64 k] := by
    intro i hi h1
    have hx : ∃ x, xs[i]? = some x := ⟨_, List.getElem?_eq_getElem (by simp at hxl; omega)⟩
    obtain ⟨x, hx⟩ := hx
    rw [hx, c1] at h1
    obtain ⟨k, e1, _⟩ := DataW.trod_int Tryd.underlying3 h1
    exact ⟨k, by simpa [Value.cells] using e1⟩
  obtain ⟨k0, h0⟩ := one 0 (by omega) (hel 0 _ rfl)
  obtain ⟨k1, h1⟩ := one 1 (by omega) (hel 1 _ rfl)
  obtain ⟨k2, h2⟩ := one 2 (by omega) (hel 2 _ rfl)
  obtain ⟨k3, h3⟩ := one 3 (by omega) (hel 3 _ rfl)
  obtain ⟨k4, h4⟩ := one 4 (by omega) (hel 4 _ rfl)
  obtain ⟨k5, h5⟩ := one 5 (by omega) (hel 5 _ rfl)
  obtain ⟨k6, h6⟩ := one 6 (by omega) (hel 6 _ rfl)
  refine ⟨k0, k1, k2, k3, k4, k5, k6, ?_⟩
  congr 1
  apply Array.ext'
  have hl : cs.toList.length = 7 := by simpa using hsz
  generalize cs.toList = l at *
  match l, hl with
  | [a0, a1, a2, a3, a4, a5, a6], _ =>
    simp at h0 h1 h2 h3 h4 h5 h6
    simp [h0, h1, h2, h3, h4, h5, h6]

end Go.Proofs.YtcfkmckdjappbaaDoor
