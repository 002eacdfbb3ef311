/-
  StampTells walked: a moment's date and texts are the reference's.
-/
import Derived.Test.YtcfkmckdjappbaaDoorShown
import Derived.Test.YtcfkmckdjappbaaDoorRInner
import Derived.Test.YtcfkmckdjappbaaDoorROf
namespace Go.Proofs.YtcfkmckdjappbaaDoor
open Go.RowKit Own
set_option linter.unusedVariables false
set_option linter.unusedSimpArgs false
set_option maxRecDepth 100000

attribute [local go_sem] str_toList

set_option maxHeartbeats 4000000 in
theorem tells_walk (sec : Int) (w : World) (hG : Good w) :
    Calls Tryd.prog 3 #[.int .i64 sec] w fun e w' => e = .returned (.bool true) ∧ Below w.heap.size w w' := by
  by_cases hr : 0 ≤ sec ∧ sec < 4294967296
  · go_enter Tryd.func3, Tryd.ntmps3
    go_upto_region 4 with (first
      | (go_at_call 9; refine (shown_any w hG).mono ?_; rintro e w1 ⟨rfl, b1⟩; have G1 := hG.below b1)
      | (go_at_call 10; refine (of_ok sec w1 G1.1 G1.2.1 hr.1 hr.2).mono ?_; rintro e w2 ⟨y, m, d, hD, rfl, c2⟩; simp only [time7]; have b2 := below_then b1 c2)
      | (go_at_call 11; refine (rof_ok sec _ hr.1 hr.2).mono ?_; rintro e w3 ⟨y', m', d', hD', rfl, c3⟩; obtain ⟨rfl, rfl, rfl⟩ := hD.uniq hD'; simp only [time7]; have b3 := below_then (b2.alloc b2.size _) c3))
    have b4 := b3.alloc b3.size (.cells #[.int .i64 y, .int .i64 m, .int .i64 d, .int .i64 (sec % 86400 / 3600), .int .i64 (sec % 3600 / 60), .int .i64 (sec % 60), .int .i64 ((sec / 86400 + 6) % 7)] 24 (0, 0))
    have B1 : (w3.alloc (.cells #[.int .i64 y, .int .i64 m, .int .i64 d, .int .i64 (sec % 86400 / 3600), .int .i64 (sec % 3600 / 60), .int .i64 (sec % 60), .int .i64 ((sec / 86400 + 6) % 7)] 24 (0, 0))).heap[w2.heap.size]? = some (.cells #[.int .i64 y, .int .i64 m, .int .i64 d, .int .i64 (sec % 86400 / 3600), .int .i64 (sec % 3600 / 60), .int .i64 (sec % 60), .int .i64 ((sec / 86400 + 6) % 7)] 24 (0, 0)) := keep_alloc (keep_block (heap_alloc_new w2 _) c3) _
    generalize hw4 : w3.alloc (.cells #[.int .i64 y, .int .i64 m, .int .i64 d, .int .i64 (sec % 86400 / 3600), .int .i64 (sec % 3600 / 60), .int .i64 (sec % 60), .int .i64 ((sec / 86400 + 6) % 7)] 24 (0, 0)) = w4 at *
    have B2 : w4.heap[w3.heap.size]? = some (.cells #[.int .i64 y, .int .i64 m, .int .i64 d, .int .i64 (sec % 86400 / 3600), .int .i64 (sec % 3600 / 60), .int .i64 (sec % 60), .int .i64 ((sec / 86400 + 6) % 7)] 24 (0, 0)) := by rw [← hw4]; exact heap_alloc_new w3 _
    have G4 := hG.below b4
    have p0 := cells_at B1 0
    have p1 := cells_at B1 1
    have p2 := cells_at B1 2
    have p3 := cells_at B1 3
    have p4 := cells_at B1 4
    have p5 := cells_at B1 5
    have p6 := cells_at B1 6
    have q0 := cells_at B2 0
    have q1 := cells_at B2 1
    have q2 := cells_at B2 2
    have q3 := cells_at B2 3
    have q4 := cells_at B2 4
    have q5 := cells_at B2 5
    have q6 := cells_at B2 6
    have HB4 := hid b4
    clear b1 b2 b3 b4 c2 c3 hw4 B1 B2
    go_wp2_with (first
      | (go_at_call 12; refine (header_ok sec _ G4.1 G4.2.1 hr.1 hr.2).mono ?_; rintro e w5 ⟨y', m', d', hD', rfl, c5⟩; obtain ⟨rfl, rfl, rfl⟩ := hD.uniq hD'; have b5 := below_then HB4.out c5)
      | (go_at_call 13; refine (rheader_ok sec _ hr.1 hr.2).mono ?_; rintro e w6 ⟨y', m', d', hD', rfl, c6⟩; obtain ⟨rfl, rfl, rfl⟩ := hD.uniq hD'; have b6 := below_then b5 c6; have G6 := hG.below b6)
      | (go_at_call 14; refine (internal_ok sec _ G6.1 G6.2.1 hr.1 hr.2).mono ?_; rintro e w7 ⟨y', m', d', hD', rfl, c7⟩; obtain ⟨rfl, rfl, rfl⟩ := hD.uniq hD'; have b7 := below_then b6 c7)
      | (go_at_call 15; refine (rinternal_ok sec _ hr.1 hr.2).mono ?_; rintro e w8 ⟨y', m', d', hD', rfl, c8⟩; obtain ⟨rfl, rfl, rfl⟩ := hD.uniq hD'; have b8 := below_then b7 c8))
    go_ret
    exact ⟨rfl, b8⟩
  · have hr' : sec < 0 ∨ 4294967296 ≤ sec := by omega
    go_enter Tryd.func3, Tryd.ntmps3
    go_upto_region 4 with (first
      | (go_at_call 9; refine (shown_any w hG).mono ?_; rintro e w1 ⟨rfl, b1⟩)
      | (go_at_call 10; refine (of_bad sec _ hr').mono ?_; rintro e w2 ⟨rfl, c2⟩; simp only [time7]; have b2 := below_then b1 c2)
      | (go_at_call 11; refine (rof_bad sec _ hr').mono ?_; rintro e w3 ⟨rfl, c3⟩; simp only [time7]; have b3 := below_then (b2.alloc b2.size _) c3))
    have b4 := b3.alloc b3.size (.cells #[.int .i64 0, .int .i64 0, .int .i64 0, .int .i64 0, .int .i64 0, .int .i64 0, .int .i64 0] 24 (0, 0))
    have B1 : (w3.alloc (.cells #[.int .i64 0, .int .i64 0, .int .i64 0, .int .i64 0, .int .i64 0, .int .i64 0, .int .i64 0] 24 (0, 0))).heap[w2.heap.size]? = some (.cells #[.int .i64 0, .int .i64 0, .int .i64 0, .int .i64 0, .int .i64 0, .int .i64 0, .int .i64 0] 24 (0, 0)) := keep_alloc (keep_block (heap_alloc_new w2 _) c3) _
    generalize hw4 : w3.alloc (.cells #[.int .i64 0, .int .i64 0, .int .i64 0, .int .i64 0, .int .i64 0, .int .i64 0, .int .i64 0] 24 (0, 0)) = w4 at *
    have B2 : w4.heap[w3.heap.size]? = some (.cells #[.int .i64 0, .int .i64 0, .int .i64 0, .int .i64 0, .int .i64 0, .int .i64 0, .int .i64 0] 24 (0, 0)) := by rw [← hw4]; exact heap_alloc_new w3 _
    have p0 := cells_at B1 0
    have p1 := cells_at B1 1
    have p2 := cells_at B1 2
    have p3 := cells_at B1 3
    have p4 := cells_at B1 4
    have p5 := cells_at B1 5
    have p6 := cells_at B1 6
    have q0 := cells_at B2 0
    have q1 := cells_at B2 1
    have q2 := cells_at B2 2
    have q3 := cells_at B2 3
    have q4 := cells_at B2 4
    have q5 := cells_at B2 5
    have q6 := cells_at B2 6
    have HB4 := hid b4
    clear b1 b2 b3 b4 c2 c3 hw4 B1 B2
    go_wp2_with (first
      | (go_at_call 12; refine (header_bad sec _ hr').mono ?_; rintro e w5 ⟨rfl, c5⟩; have b5 := below_then HB4.out c5)
      | (go_at_call 13; refine (rheader_bad sec _ hr').mono ?_; rintro e w6 ⟨rfl, c6⟩; have b6 := below_then b5 c6)
      | (go_at_call 14; refine (internal_bad sec _ hr').mono ?_; rintro e w7 ⟨rfl, c7⟩; have b7 := below_then b6 c7)
      | (go_at_call 15; refine (rinternal_bad sec _ hr').mono ?_; rintro e w8 ⟨rfl, c8⟩; have b8 := below_then b7 c8))
    go_ret
    exact ⟨rfl, b8⟩

end Go.Proofs.YtcfkmckdjappbaaDoor
