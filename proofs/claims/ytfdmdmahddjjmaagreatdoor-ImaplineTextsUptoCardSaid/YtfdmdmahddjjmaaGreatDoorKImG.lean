/-
  Flags: their names, one flag, a list of flags.
-/
import Derived.Test.YtfdmdmahddjjmaaGreatDoorKImV
import Derived.Test.YtfdmdmahddjjmaaGreatDoorKImL
import Derived.Test.YtfdmdmahddjjmaaGreatDoorPkOwn
import Derived.Deep.RegionHeld3
import Derived.Laws.BitsLemmas
import Derived.MapKept
namespace Go.Proofs.YtfdmdmahddjjmaaGreatDoor
open Go.RowKit Own Im
set_option linter.unusedVariables false
set_option linter.unusedSimpArgs false
set_option maxRecDepth 100000
attribute [local go_sem] str_toList str_size

theorem str_beq (a b : Bt) : (str a == str b) = (a == b) := by
  by_cases h : a = b
  · subst h
    rw [(MapKept.bytes_beq _ _).2 rfl]; simp
  · rw [(beq_eq_false_iff_ne).2 h, Bool.eq_false_iff]
    intro k
    exact h (str_inj ((MapKept.bytes_beq _ _).1 k))
theorem flags_any (w : World) : Calls Tryz.prog 41 #[] w fun e w' => ∃ g, e = .returned (.slice (some ⟨g, 0, none⟩) 5 5) ∧ w.heap.size ≤ g ∧ g < w'.heap.size ∧ (∀ (j : Nat) (x : Bt), flagNames[j]? = some x → w'.cell? ⟨g, j, none⟩ = some (.string (str x))) ∧ Below w.heap.size w w' := by
  go_enter Tryz.func41, Tryz.ntmps41
  go_wp2
  go_ret
  refine ⟨w.heap.size, rfl, Nat.le_refl _, by simp, ?_, (Below.refl _ _).alloc (Nat.le_refl _) _⟩
  intro j x hx
  have hj : j < 5 := by
    rcases Nat.lt_or_ge j 5 with h | h
    · exact h
    · rw [List.getElem?_eq_none (by simpa [flagNames] using h)] at hx; cases hx
  rw [cells_at (heap_alloc_new w _)]
  have : j = 0 ∨ j = 1 ∨ j = 2 ∨ j = 3 ∨ j = 4 := by omega
  rcases this with rfl | rfl | rfl | rfl | rfl <;> (cases hx; rfl)
def idxI : Option Nat → Int
  | some i => i
  | none => -1
theorem idxN : idxI none = -1 := rfl
theorem idx0 : idxI (some 0) = 0 := rfl
theorem idx1 : idxI (some 1) = 1 := rfl
theorem idx2 : idxI (some 2) = 2 := rfl
theorem idx3 : idxI (some 3) = 3 := rfl
theorem idx4 : idxI (some 4) = 4 := rfl
theorem flagAt_lt {x : Bt} {i : Nat} (h : flagAt x = some i) : i = 0 ∨ i = 1 ∨ i = 2 ∨ i = 3 ∨ i = 4 := by
  unfold flagAt at h
  obtain ⟨h1, _⟩ := List.findIdx?_eq_some_iff_getElem.1 h
  have : i < 5 := h1
  omega
set_option maxHeartbeats 1000000 in
theorem idxf_any (fid : FuncId) (c : Nat) (x : Bt) (he : ∀ args w, (callFunc fid args).run Tryz.prog w = .ok (.enter fid args) w)
    (hf : ∀ (s : Bt) (W : World), s.length ≤ 100 → W.cell? ⟨c, 0, none⟩ = some (.string (str x)) → Calls Tryz.prog fid #[.string (str s), .pointer (some ⟨c, 0, none⟩)] W fun e W' => e = .returned (.bool (great s == x)) ∧ Below W.heap.size W W')
    (g : Nat) (w : World) (hg : ∀ (j : Nat) (y : Bt), flagNames[j]? = some y → w.cell? ⟨g, j, none⟩ = some (.string (str y))) (hc : w.cell? ⟨c, 0, none⟩ = some (.string (str x))) :
    Calls Tryz.prog 101 #[.slice (some ⟨g, 0, none⟩) 5 5, .func (.func fid) #[] #[.pointer (some ⟨c, 0, none⟩)]] w fun e w' => e = .returned (.int .i64 (idxI (flagAt x))) ∧ Below w.heap.size w w' := by
  have hglt : g < w.heap.size := World.block_lt_of_cell? w _ (hg 0 _ rfl)
  have hclt : c < w.heap.size := World.block_lt_of_cell? w _ hc
  have HG := hid hg
  have HC := hid hc
  clear hg hc
  go_enter Tryz.func101, Tryz.ntmps101
  go_wp2_with fail
  go_loopw [8] (fun v8 wr => ∃ i : Nat, i ≤ 5 ∧ v8 = .int .i64 i ∧ (∀ (j : Nat) (y : Bt), j < i → flagNames[j]? = some y → (great y == x) = false) ∧ Below w.heap.size w wr) (fun v8 wr => 5 - (intOf v8).toNat)
  case atStart => exact ⟨0, by omega, rfl, fun j y h => absurd h (Nat.not_lt_zero _), Below.refl _ _⟩
  case round =>
    obtain ⟨i, hi, rfl, hno, hbel⟩ := hrel
    have HB := hid hbel
    have HN := hid hno
    clear hno hbel
    by_cases hil : i < 5
    · obtain ⟨y, hy⟩ : ∃ y, flagNames[i]? = some y := ⟨_, List.getElem?_eq_getElem (by simpa [flagNames] using hil)⟩
      have hcell := (HB.out.cell hglt).trans (HG.out i y hy)
      have hyl : y.length ≤ 100 := by
        have : ∀ z ∈ flagNames, z.length ≤ 100 := by decide
        exact this y (List.mem_of_getElem? hy)
      have hfc := fun W (hW : W.cell? ⟨c, 0, none⟩ = some (.string (str x))) => hf y W hyl hW
      have HY := hid hy
      have hcW := (HB.out.cell hclt).trans HC.out
      have HCW := hid hcW
      clear hy hcW
      cases hb : great y == x with
      | true =>
        rw [hb] at hfc
        have Hb := hid hb
        clear hb
        go_wp2_with (refine (hfc _ HCW.out).mono ?_; rintro e w1 ⟨rfl, b1⟩; have B1 := hid b1; clear b1)
        go_ret
        refine ⟨?_, HB.out.trans (B1.out.mono HB.out.size)⟩
        have : flagAt x = some i := by
          unfold flagAt
          rw [List.findIdx?_eq_some_iff_getElem]
          refine ⟨by simpa [flagNames] using hil, ?_, ?_⟩
          · have := List.getElem?_eq_some_iff.1 HY.out
            obtain ⟨h1, h2⟩ := this
            rw [h2]; exact Hb.out
          · intro j hj
            rw [HN.out j _ hj (List.getElem?_eq_getElem (by simp [flagNames]; omega))]
            simp
        rw [this]; rfl
      | false =>
        rw [hb] at hfc
        have Hb := hid hb
        clear hb
        go_wp2_with (refine (hfc _ HCW.out).mono ?_; rintro e w1 ⟨rfl, b1⟩; have B1 := hid b1; clear b1)
        go_roundw
        case rel =>
          refine ⟨i + 1, by omega, by go_num, ?_, HB.out.trans (B1.out.mono HB.out.size)⟩
          intro j z hj hz
          rcases Nat.lt_succ_iff_lt_or_eq.1 hj with h | rfl
          · exact HN.out j z h hz
          · have := hz.symm.trans HY.out
            cases this
            exact Hb.out
        case measure => simp [intOf]; omega
    · obtain rfl : i = 5 := by omega
      go_wp2_with fail
      go_ret
      refine ⟨?_, HB.out⟩
      have : flagAt x = none := by
        unfold flagAt
        rw [List.findIdx?_eq_none_iff]
        intro y hy
        obtain ⟨j, hj, rfl⟩ := List.getElem_of_mem hy
        exact HN.out j _ (by simpa [flagNames] using hj) (List.getElem?_eq_getElem hj)
      rw [this]; rfl

theorem flagC_any (s x : Bt) (c : Nat) (w : World) (hl : s.length ≤ 100) (hc : w.cell? ⟨c, 0, none⟩ = some (.string (str x))) :
    Calls Tryz.prog 129 #[.string (str s), .pointer (some ⟨c, 0, none⟩)] w fun e w' => e = .returned (.bool (great s == x)) ∧ Below w.heap.size w w' := by
  have hgr := fun W => great_any s W (by omega)
  have hclt : c < w.heap.size := World.block_lt_of_cell? w _ hc
  have hbq := str_beq (great s) x
  go_enter Tryz.func129, Tryz.ntmps129
  go_wp2_with fail
  go_region_held3 (fun w' => w'.cell? ⟨c, 0, none⟩ = some (.string (str x)))
    (first
      | assumption
      | exact (hb.cell hclt).trans hc
      | go_keep)
    (first | (go_at_call 45; refine (hgr _).mono ?_; rintro e w1 ⟨rfl, hb⟩))
  go_wp2
  go_ret
  exact ⟨by first | rfl | (show Ending.returned (.bool (str (great s) == str x)) = _; rw [hbq]), below_then (Below.refl _ _).drew hb⟩

theorem keyC_any (s x : Bt) (c : Nat) (w : World) (hl : s.length ≤ 100) (hc : w.cell? ⟨c, 0, none⟩ = some (.string (str x))) :
    Calls Tryz.prog 102 #[.string (str s), .pointer (some ⟨c, 0, none⟩)] w fun e w' => e = .returned (.bool (great s == x)) ∧ Below w.heap.size w w' := by
  have hgr := fun W => great_any s W (by omega)
  have hclt : c < w.heap.size := World.block_lt_of_cell? w _ hc
  have hbq := str_beq (great s) x
  go_enter Tryz.func102, Tryz.ntmps102
  go_wp2_with fail
  go_region_held3 (fun w' => w'.cell? ⟨c, 0, none⟩ = some (.string (str x)))
    (first
      | assumption
      | exact (hb.cell hclt).trans hc
      | go_keep)
    (first | (go_at_call 45; refine (hgr _).mono ?_; rintro e w1 ⟨rfl, hb⟩))
  go_wp2
  go_ret
  exact ⟨by first | rfl | (show Ending.returned (.bool (str (great s) == str x)) = _; rw [hbq]), below_then (Below.refl _ _).drew hb⟩

set_option maxHeartbeats 1000000 in
theorem flag_any (b : Nat) (s : Bt) (w : World) (h : RdI w b s) :
    Calls Tryz.prog 97 #[.pointer (some ⟨b, 0, none⟩)] w fun e w' => Reads b w vFlags (Im.flag s) e w' := by
  have hmf : ∀ (fn : Fn) (first cap : Array Value) (w : World), (Instr.makeFunc fn first cap).run Tryz.prog w = .ok (.func fn first cap) w := fun _ _ _ _ => rfl
  have H := hid h
  clear h
  obtain ⟨R, hR⟩ : ∃ R, R = Im.flag s := ⟨_, rfl⟩
  rw [← hR]
  have HR := hid hR
  clear hR
  go_enter Tryz.func97, Tryz.ntmps97
  go_wp2_with (first
    | (go_at_call 53; refine (sign_any b s [92] _ H.out).mono ?_; intro e w1 h1; rcases sign_cases h1 with ⟨q1, rfl, o1⟩ | ⟨s1, q1, rfl, r1, o1⟩ <;> (first | (have O1 := hid o1; have Q1 := hid q1; have R1 := hid r1; clear o1 q1 r1 h1) | (have O1 := hid o1; have Q1 := hid q1; clear o1 q1 h1)))
    | (go_at_call 25; refine (word_any b s1 _ R1.out).mono ?_; rintro e w2 ⟨rfl, r2, o2⟩; have a2 := (Below.refl w2.heap.size w2).alloc (Nat.le_refl _) (.cells #[.string (str (Im.word s1).1)] 9); have c2 := cells_at (heap_alloc_new w2 (.cells #[.string (str (Im.word s1).1)] 9)) 0; have R2 := hid (r2.below a2); have O2 := hid (O1.out.trans (o2.trans (Only.of a2 (Nat.le_of_lt r2.lt)))); clear r2 o2 a2)
    | (go_at_call 41; refine (flags_any _).mono ?_; rintro e w3 ⟨g, rfl, g1, g2, g3, b3⟩; have R3 := hid (R2.out.below b3); have O3 := hid (O2.out.trans (Only.of b3 (Nat.le_of_lt R2.out.lt))); have C3 := hid ((b3.cell (by simp)).trans c2); have G3 := hid g3; clear b3 g3)
    | (go_at_call 101; have hx := idxf_any 129 w2.heap.size (Im.word s1).1 (enters_of Tryz.func129 (by kernel_rfl) rfl) (fun s W h1 h2 => flagC_any s _ _ W h1 h2) g w3 G3.out C3.out; rcases hq : flagAt (Im.word s1).1 with _ | i <;> rw [hq] at hx <;> (first | (rcases flagAt_lt hq with rfl | rfl | rfl | rfl | rfl) | skip) <;> (have Q4 := hid hq; clear hq; first | rw [idx0] at hx | rw [idx1] at hx | rw [idx2] at hx | rw [idx3] at hx | rw [idx4] at hx | rw [idxN] at hx) <;> (refine hx.mono ?_; clear hx; rintro e w4 ⟨rfl, b4⟩; have R4 := hid (R3.out.below b4); have O4 := hid (O3.out.trans (Only.of b4 (Nat.le_of_lt R3.out.lt))); clear b4))
    | (go_at_call 28; refine (must_any _ _).mono ?_; rintro e w5 ⟨h5, rfl⟩; rcases must_split h5 with ⟨m5, rfl⟩ | ⟨m5, rfl⟩ <;> (first | (exfalso; revert m5; simp [idxI]; done) | clear h5 m5)))
  all_goals first
    | (refine ⟨rfl, Reads.panic ?_ O4.out⟩; rw [HR.out]; simp [Im.flag, Q1.out, Q4.out]; done)
    | (refine ⟨rfl, Reads.panic ?_ O1.out⟩; rw [HR.out]; simp [Im.flag, Q1.out]; done)
    | skip
  all_goals go_ret
  all_goals exact Reads.give (by rw [HR.out]; simp [Im.flag, Q1.out, Q4.out]) O4.out rfl R4.out
end Go.Proofs.YtfdmdmahddjjmaaGreatDoor
