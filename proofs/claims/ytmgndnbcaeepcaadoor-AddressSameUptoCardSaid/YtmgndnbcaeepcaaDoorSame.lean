/-
  Whether two addresses are the same: the program's and the reference's; AddressSame walked.
-/
import Derived.Test.YtmgndnbcaeepcaaDoorShown
import Derived.Test.YtmgndnbcaeepcaaDoorCaseS
namespace Go.Proofs.YtmgndnbcaeepcaaDoor
open Go.RowKit Own Ad
set_option linter.unusedVariables false
set_option linter.unusedSimpArgs false
set_option maxRecDepth 100000
attribute [local go_sem] str_toList

def smallL (l : List UInt8) : List UInt8 := l.map (moveB 65 97)
def sameP (l d l' d' : List UInt8) : Bool := l == l' && smallL d == smallL d'

set_option maxHeartbeats 4000000 in
theorem same_any (n l d n' l' d' : List UInt8) (w : World) (h1 : d.length ≤ 1000000000) (h2 : d'.length ≤ 1000000000) :
    Calls Tryd.prog 15 #[.agg #[.string (str n), .string (str l), .string (str d)], .agg #[.string (str n'), .string (str l'), .string (str d')]] w fun e w' => e = .returned (.bool (sameP l d l' d')) ∧ Below w.heap.size w w' := by
  have hs1 := fun W => small_any d W (by omega)
  have hs2 := fun W => small_any d' W (by omega)
  obtain ⟨D, hD⟩ : ∃ D, D = smallL d := ⟨_, rfl⟩
  obtain ⟨D', hD'⟩ : ∃ D', D' = smallL d' := ⟨_, rfl⟩
  have hR : sameP l d l' d' = (l == l' && D == D') := by rw [hD, hD']; rfl
  rw [show d.map (moveB 65 97) = D from hD.symm] at hs1
  rw [show d'.map (moveB 65 97) = D' from hD'.symm] at hs2
  rw [hR]
  clear hD hD' hR
  obtain ⟨w1, hw1⟩ : ∃ w1, w1 = w.alloc (.cells #[.string (str n), .string (str l), .string (str d)] 31) := ⟨_, rfl⟩
  have a1 : AdAt w1 w.heap.size (n, l, d) := by rw [hw1]; exact AdAt.new w (n, l, d)
  have b1 : Below w.heap.size w w1 := by rw [hw1]; exact (Below.refl _ _).alloc (Nat.le_refl _) _
  obtain ⟨w2, hw2⟩ : ∃ w2, w2 = w1.alloc (.cells #[.string (str n'), .string (str l'), .string (str d')] 31) := ⟨_, rfl⟩
  have a2 : AdAt w2 w.heap.size (n, l, d) := by rw [hw2]; exact a1.alloc _
  have e2 : AdAt w2 w1.heap.size (n', l', d') := by rw [hw2]; exact AdAt.new w1 (n', l', d')
  have b2 : Below w.heap.size w w2 := by rw [hw2]; exact b1.alloc b1.size _
  have hz : w1.heap.size = w.heap.size + 1 := by rw [hw1]; simp
  have HA := hid a2
  have HE := hid e2
  have HB := hid b2
  rw [hz] at HE
  have q1 := HA.out.c1
  have q2 := HA.out.c2
  have r1 := HE.out.c1
  have r2 := HE.out.c2
  have HW : Hid (w2 = (w.alloc (.cells #[.string (str n), .string (str l), .string (str d)] 31)).alloc (.cells #[.string (str n'), .string (str l'), .string (str d')] 31)) := hid (by rw [hw2, hw1])
  clear a1 b1 a2 e2 b2 hw1 hw2 hz
  have tok0 : Tk 0 := ⟨⟩
  cases hl : (l == l') with
  | true =>
    rw [Bool.true_and]
    go_enter Tryd.func15, Tryd.ntmps15
    go_wp2_with fail
    rw [← HW.out]
    go_region_held3 (fun w' => w'.cell? ⟨w.heap.size, 1, none⟩ = some (.string (str l)) ∧ w'.cell? ⟨w.heap.size, 2, none⟩ = some (.string (str d)) ∧ w'.cell? ⟨w.heap.size + 1, 1, none⟩ = some (.string (str l')) ∧ w'.cell? ⟨w.heap.size + 1, 2, none⟩ = some (.string (str d')))
      (first
        | exact ⟨q1, q2, r1, r2⟩
        | (go_split_ands; exact ⟨keep_below d3 rfl (by assumption), keep_below d3 rfl (by assumption), keep_below d3 rfl (by assumption), keep_below d3 rfl (by assumption)⟩)
        | (go_split_ands; exact ⟨keep_below d4 rfl (by assumption), keep_below d4 rfl (by assumption), keep_below d4 rfl (by assumption), keep_below d4 rfl (by assumption)⟩)
        | go_keep)
      (first
        | (go_at_call 23; have t_ : Tk 0 := ‹Tk 0›; refine (hs1 _).mono ?_; rintro e w3 ⟨rfl, d3⟩; clear t_; clear tok0; have tok1 : Tk 1 := ⟨⟩)
        | (go_at_call 23; have t_ : Tk 1 := ‹Tk 1›; refine (hs2 _).mono ?_; rintro e w4 ⟨rfl, d4⟩; clear t_; clear tok1; have tok2 : Tk 2 := ⟨⟩))
    go_wp2_with fail
    go_ret
    exact ⟨by first | rfl | simp, below_then (below_then HB.out.drew d3) d4⟩
  | false =>
    rw [Bool.false_and]
    go_enter Tryd.func15, Tryd.ntmps15
    go_wp2_with fail
    rw [← HW.out]
    refine wp_region_held_drew (S := (fun w' => w'.cell? ⟨w.heap.size, 1, none⟩ = some (.string (str l)) ∧ w'.cell? ⟨w.heap.size, 2, none⟩ = some (.string (str d)) ∧ w'.cell? ⟨w.heap.size + 1, 1, none⟩ = some (.string (str l')) ∧ w'.cell? ⟨w.heap.size + 1, 2, none⟩ = some (.string (str d')))) (by kernel_rfl) ⟨q1, q2, r1, r2⟩ (fun hHeld => ?_)
    refine wpAnyH_take (i := 0) (oi := _) (v := ?va0) rfl (by kernel_rfl) (by kernel_rfl) (by kernel_rfl) (fun _ _ _ h => h) (Or.inl ⟨by rfl, ?ya0⟩) (by assumption) ?ra0
    case ya0 => (intro w hSw; (try dsimp only at hSw); go_simp; try with_reducible rfl)
    try simp only [List.getElem_toArray, List.getElem_cons_zero, List.getElem_cons_succ, Act.put, List.setIfInBounds_toArray, List.set_cons_zero, List.set_cons_succ]
    refine wpAnyH_take (i := 1) (oi := _) (v := ?va1) rfl (by kernel_rfl) (by kernel_rfl) (by kernel_rfl) (fun _ _ _ h => h) (Or.inl ⟨by rfl, ?ya1⟩) (by assumption) ?ra1
    case ya1 => (intro w hSw; (try dsimp only at hSw); go_simp; try with_reducible rfl)
    try simp only [List.getElem_toArray, List.getElem_cons_zero, List.getElem_cons_succ, Act.put, List.setIfInBounds_toArray, List.set_cons_zero, List.set_cons_succ]
    refine wpAnyH_take (i := 2) (oi := _) (v := ?va2) rfl (by kernel_rfl) (by kernel_rfl) (by kernel_rfl) (fun _ _ _ h => h) (Or.inl ⟨by rfl, ?ya2⟩) (by assumption) ?ra2
    case ya2 => (intro w hSw; (try dsimp only at hSw); go_simp; try with_reducible rfl)
    try simp only [List.getElem_toArray, List.getElem_cons_zero, List.getElem_cons_succ, Act.put, List.setIfInBounds_toArray, List.set_cons_zero, List.set_cons_succ]
    refine wpAnyH_take (i := 3) (oi := _) (v := ?va3) rfl (by kernel_rfl) (by kernel_rfl) (by kernel_rfl) (fun _ _ _ h => h) (Or.inl ⟨by rfl, ?ya3⟩) (by assumption) ?ra3
    case ya3 => (intro w hSw; (try dsimp only at hSw); go_simp; try with_reducible rfl)
    try simp only [List.getElem_toArray, List.getElem_cons_zero, List.getElem_cons_succ, Act.put, List.setIfInBounds_toArray, List.set_cons_zero, List.set_cons_succ]
    refine wpAnyH_take (i := 4) (oi := _) (v := ?va4) rfl (by kernel_rfl) (by kernel_rfl) (by kernel_rfl) (fun _ _ _ h => h) (Or.inl ⟨by rfl, ?ya4⟩) (by assumption) ?ra4
    case ya4 => (intro w hSw; (try dsimp only at hSw); go_simp; try with_reducible rfl)
    try simp only [List.getElem_toArray, List.getElem_cons_zero, List.getElem_cons_succ, Act.put, List.setIfInBounds_toArray, List.set_cons_zero, List.set_cons_succ]
    refine wpAnyH_take (i := 5) (oi := _) (v := ?va5) rfl (by kernel_rfl) (by kernel_rfl) (by kernel_rfl) (fun _ _ _ h => h) (Or.inl ⟨by rfl, ?ya5⟩) (by assumption) ?ra5
    case ya5 => (intro w hSw; (try dsimp only at hSw); go_simp; try with_reducible rfl)
    try simp only [List.getElem_toArray, List.getElem_cons_zero, List.getElem_cons_succ, Act.put, List.setIfInBounds_toArray, List.set_cons_zero, List.set_cons_succ]
    refine wpAnyH_take (i := 6) (oi := _) (v := undef) rfl (by kernel_rfl) (by kernel_rfl) (by kernel_rfl) (fun _ _ _ h => h) (Or.inr ⟨by rfl, rfl⟩) (by assumption) ?_
    try simp only [List.getElem_toArray, List.getElem_cons_zero, List.getElem_cons_succ, Act.put, List.setIfInBounds_toArray, List.set_cons_zero, List.set_cons_succ]
    refine wpAnyH_take (i := 7) (oi := _) (v := undef) rfl (by kernel_rfl) (by kernel_rfl) (by kernel_rfl) (fun _ _ _ h => h) (Or.inr ⟨by rfl, rfl⟩) (by assumption) ?_
    try simp only [List.getElem_toArray, List.getElem_cons_zero, List.getElem_cons_succ, Act.put, List.setIfInBounds_toArray, List.set_cons_zero, List.set_cons_succ]
    refine wpAnyH_take (i := 9) (oi := _) (v := undef) rfl (by kernel_rfl) (by kernel_rfl) (by kernel_rfl) (fun _ _ _ h => h) (Or.inr ⟨by rfl, rfl⟩) (by assumption) ?_
    try simp only [List.getElem_toArray, List.getElem_cons_zero, List.getElem_cons_succ, Act.put, List.setIfInBounds_toArray, List.set_cons_zero, List.set_cons_succ]
    refine wpAnyH_take (i := 10) (oi := _) (v := undef) rfl (by kernel_rfl) (by kernel_rfl) (by kernel_rfl) (fun _ _ _ h => h) (Or.inr ⟨by rfl, rfl⟩) (by assumption) ?_
    try simp only [List.getElem_toArray, List.getElem_cons_zero, List.getElem_cons_succ, Act.put, List.setIfInBounds_toArray, List.set_cons_zero, List.set_cons_succ]
    refine wpAnyH_ready (rs := [8]) (by kernel_rfl) (by simp) ?_
    refine AllReadyH.cons (o := _) rfl (fun K hK => ?_) AllReadyH.nil
    rw [if_neg (by simp [Region.wanted, yielded])]
    refine hK.out _ _ ⟨q1, q2, r1, r2⟩ (fun hHeld2 => ?_)
    clear hK K
    try simp only [List.getElem_toArray, List.getElem_cons_zero, List.getElem_cons_succ, Act.put, List.setIfInBounds_toArray, List.set_cons_zero, List.set_cons_succ]
    refine wpAnyH_ready (rs := [11]) (by kernel_rfl) (by simp) ?_
    refine AllReadyH.cons (o := _) rfl (fun K hK => ?_) AllReadyH.nil
    rw [if_neg (by simp [Region.wanted, yielded])]
    refine hK.out _ _ ⟨q1, q2, r1, r2⟩ (fun hHeld2 => ?_)
    clear hK K
    try simp only [List.getElem_toArray, List.getElem_cons_zero, List.getElem_cons_succ, Act.put, List.setIfInBounds_toArray, List.set_cons_zero, List.set_cons_succ]
    refine wpAnyH_take (i := 12) (oi := _) (v := undef) rfl (by kernel_rfl) (by kernel_rfl) (by kernel_rfl) (fun _ _ _ h => h) (Or.inr ⟨by rfl, rfl⟩) (by assumption) ?_
    try simp only [List.getElem_toArray, List.getElem_cons_zero, List.getElem_cons_succ, Act.put, List.setIfInBounds_toArray, List.set_cons_zero, List.set_cons_succ]
    refine wpAnyH_take (i := 13) (oi := _) (v := ?va13) rfl (by kernel_rfl) (by kernel_rfl) (by kernel_rfl) (fun _ _ _ h => h) (Or.inl ⟨by rfl, ?ya13⟩) (by assumption) ?ra13
    case ya13 => (intro w hSw; (try dsimp only at hSw); go_simp; try with_reducible rfl)
    try simp only [List.getElem_toArray, List.getElem_cons_zero, List.getElem_cons_succ, Act.put, List.setIfInBounds_toArray, List.set_cons_zero, List.set_cons_succ]
    refine wpAnyH_take (i := 14) (oi := _) (v := ?va14) rfl (by kernel_rfl) (by kernel_rfl) (by kernel_rfl) (fun _ _ _ h => h) (Or.inl ⟨by rfl, ?ya14⟩) (by assumption) ?ra14
    case ya14 => (intro w hSw; (try dsimp only at hSw); go_simp; try with_reducible rfl)
    try simp only [List.getElem_toArray, List.getElem_cons_zero, List.getElem_cons_succ, Act.put, List.setIfInBounds_toArray, List.set_cons_zero, List.set_cons_succ]
    refine wpAnyH_done (by kernel_rfl) ?_ _
    go_wp2_with fail
    go_ret
    exact ⟨rfl, HB.out.drew⟩

set_option maxHeartbeats 4000000 in
theorem rsame_any (n l d n' l' d' : List UInt8) (w : World) (h1 : d.length ≤ 1000000000) (h2 : d'.length ≤ 1000000000) :
    Calls Tryd.prog 16 #[.agg #[.string (str n), .string (str l), .string (str d)], .agg #[.string (str n'), .string (str l'), .string (str d')]] w fun e w' => e = .returned (.bool (sameP l d l' d')) ∧ Below w.heap.size w w' := by
  have hs1 := fun W => rsmall_any d W (by omega)
  have hs2 := fun W => rsmall_any d' W (by omega)
  obtain ⟨D, hD⟩ : ∃ D, D = smallL d := ⟨_, rfl⟩
  obtain ⟨D', hD'⟩ : ∃ D', D' = smallL d' := ⟨_, rfl⟩
  have hR : sameP l d l' d' = (l == l' && D == D') := by rw [hD, hD']; rfl
  rw [show d.map (moveB 65 97) = D from hD.symm] at hs1
  rw [show d'.map (moveB 65 97) = D' from hD'.symm] at hs2
  rw [hR]
  clear hD hD' hR
  obtain ⟨w1, hw1⟩ : ∃ w1, w1 = w.alloc (.cells #[.string (str n), .string (str l), .string (str d)] 31) := ⟨_, rfl⟩
  have a1 : AdAt w1 w.heap.size (n, l, d) := by rw [hw1]; exact AdAt.new w (n, l, d)
  have b1 : Below w.heap.size w w1 := by rw [hw1]; exact (Below.refl _ _).alloc (Nat.le_refl _) _
  obtain ⟨w2, hw2⟩ : ∃ w2, w2 = w1.alloc (.cells #[.string (str n'), .string (str l'), .string (str d')] 31) := ⟨_, rfl⟩
  have a2 : AdAt w2 w.heap.size (n, l, d) := by rw [hw2]; exact a1.alloc _
  have e2 : AdAt w2 w1.heap.size (n', l', d') := by rw [hw2]; exact AdAt.new w1 (n', l', d')
  have b2 : Below w.heap.size w w2 := by rw [hw2]; exact b1.alloc b1.size _
  have hz : w1.heap.size = w.heap.size + 1 := by rw [hw1]; simp
  have HA := hid a2
  have HE := hid e2
  have HB := hid b2
  rw [hz] at HE
  have q1 := HA.out.c1
  have q2 := HA.out.c2
  have r1 := HE.out.c1
  have r2 := HE.out.c2
  have HW : Hid (w2 = (w.alloc (.cells #[.string (str n), .string (str l), .string (str d)] 31)).alloc (.cells #[.string (str n'), .string (str l'), .string (str d')] 31)) := hid (by rw [hw2, hw1])
  clear a1 b1 a2 e2 b2 hw1 hw2 hz
  have tok0 : Tk 0 := ⟨⟩
  cases hl : (l == l') with
  | true =>
    rw [Bool.true_and]
    go_enter Tryd.func16, Tryd.ntmps16
    go_wp2_with fail
    rw [← HW.out]
    go_region_held3 (fun w' => w'.cell? ⟨w.heap.size, 1, none⟩ = some (.string (str l)) ∧ w'.cell? ⟨w.heap.size, 2, none⟩ = some (.string (str d)) ∧ w'.cell? ⟨w.heap.size + 1, 1, none⟩ = some (.string (str l')) ∧ w'.cell? ⟨w.heap.size + 1, 2, none⟩ = some (.string (str d')))
      (first
        | exact ⟨q1, q2, r1, r2⟩
        | (go_split_ands; exact ⟨keep_below d3 rfl (by assumption), keep_below d3 rfl (by assumption), keep_below d3 rfl (by assumption), keep_below d3 rfl (by assumption)⟩)
        | (go_split_ands; exact ⟨keep_below d4 rfl (by assumption), keep_below d4 rfl (by assumption), keep_below d4 rfl (by assumption), keep_below d4 rfl (by assumption)⟩)
        | go_keep)
      (first
        | (go_at_call 24; have t_ : Tk 0 := ‹Tk 0›; refine (hs1 _).mono ?_; rintro e w3 ⟨rfl, d3⟩; clear t_; clear tok0; have tok1 : Tk 1 := ⟨⟩)
        | (go_at_call 24; have t_ : Tk 1 := ‹Tk 1›; refine (hs2 _).mono ?_; rintro e w4 ⟨rfl, d4⟩; clear t_; clear tok1; have tok2 : Tk 2 := ⟨⟩))
    go_wp2_with fail
    go_ret
    exact ⟨by first | rfl | simp, below_then (below_then HB.out.drew d3) d4⟩
  | false =>
    rw [Bool.false_and]
    go_enter Tryd.func16, Tryd.ntmps16
    go_wp2_with fail
    rw [← HW.out]
    refine wp_region_held_drew (S := (fun w' => w'.cell? ⟨w.heap.size, 1, none⟩ = some (.string (str l)) ∧ w'.cell? ⟨w.heap.size, 2, none⟩ = some (.string (str d)) ∧ w'.cell? ⟨w.heap.size + 1, 1, none⟩ = some (.string (str l')) ∧ w'.cell? ⟨w.heap.size + 1, 2, none⟩ = some (.string (str d')))) (by kernel_rfl) ⟨q1, q2, r1, r2⟩ (fun hHeld => ?_)
    refine wpAnyH_take (i := 0) (oi := _) (v := ?vb0) rfl (by kernel_rfl) (by kernel_rfl) (by kernel_rfl) (fun _ _ _ h => h) (Or.inl ⟨by rfl, ?yb0⟩) (by assumption) ?rb0
    case yb0 => (intro w hSw; (try dsimp only at hSw); go_simp; try with_reducible rfl)
    try simp only [List.getElem_toArray, List.getElem_cons_zero, List.getElem_cons_succ, Act.put, List.setIfInBounds_toArray, List.set_cons_zero, List.set_cons_succ]
    refine wpAnyH_take (i := 1) (oi := _) (v := ?vb1) rfl (by kernel_rfl) (by kernel_rfl) (by kernel_rfl) (fun _ _ _ h => h) (Or.inl ⟨by rfl, ?yb1⟩) (by assumption) ?rb1
    case yb1 => (intro w hSw; (try dsimp only at hSw); go_simp; try with_reducible rfl)
    try simp only [List.getElem_toArray, List.getElem_cons_zero, List.getElem_cons_succ, Act.put, List.setIfInBounds_toArray, List.set_cons_zero, List.set_cons_succ]
    refine wpAnyH_take (i := 2) (oi := _) (v := ?vb2) rfl (by kernel_rfl) (by kernel_rfl) (by kernel_rfl) (fun _ _ _ h => h) (Or.inl ⟨by rfl, ?yb2⟩) (by assumption) ?rb2
    case yb2 => (intro w hSw; (try dsimp only at hSw); go_simp; try with_reducible rfl)
    try simp only [List.getElem_toArray, List.getElem_cons_zero, List.getElem_cons_succ, Act.put, List.setIfInBounds_toArray, List.set_cons_zero, List.set_cons_succ]
    refine wpAnyH_take (i := 3) (oi := _) (v := ?vb3) rfl (by kernel_rfl) (by kernel_rfl) (by kernel_rfl) (fun _ _ _ h => h) (Or.inl ⟨by rfl, ?yb3⟩) (by assumption) ?rb3
    case yb3 => (intro w hSw; (try dsimp only at hSw); go_simp; try with_reducible rfl)
    try simp only [List.getElem_toArray, List.getElem_cons_zero, List.getElem_cons_succ, Act.put, List.setIfInBounds_toArray, List.set_cons_zero, List.set_cons_succ]
    refine wpAnyH_take (i := 4) (oi := _) (v := ?vb4) rfl (by kernel_rfl) (by kernel_rfl) (by kernel_rfl) (fun _ _ _ h => h) (Or.inl ⟨by rfl, ?yb4⟩) (by assumption) ?rb4
    case yb4 => (intro w hSw; (try dsimp only at hSw); go_simp; try with_reducible rfl)
    try simp only [List.getElem_toArray, List.getElem_cons_zero, List.getElem_cons_succ, Act.put, List.setIfInBounds_toArray, List.set_cons_zero, List.set_cons_succ]
    refine wpAnyH_take (i := 5) (oi := _) (v := ?vb5) rfl (by kernel_rfl) (by kernel_rfl) (by kernel_rfl) (fun _ _ _ h => h) (Or.inl ⟨by rfl, ?yb5⟩) (by assumption) ?rb5
    case yb5 => (intro w hSw; (try dsimp only at hSw); go_simp; try with_reducible rfl)
    try simp only [List.getElem_toArray, List.getElem_cons_zero, List.getElem_cons_succ, Act.put, List.setIfInBounds_toArray, List.set_cons_zero, List.set_cons_succ]
    refine wpAnyH_take (i := 6) (oi := _) (v := undef) rfl (by kernel_rfl) (by kernel_rfl) (by kernel_rfl) (fun _ _ _ h => h) (Or.inr ⟨by rfl, rfl⟩) (by assumption) ?_
    try simp only [List.getElem_toArray, List.getElem_cons_zero, List.getElem_cons_succ, Act.put, List.setIfInBounds_toArray, List.set_cons_zero, List.set_cons_succ]
    refine wpAnyH_take (i := 7) (oi := _) (v := undef) rfl (by kernel_rfl) (by kernel_rfl) (by kernel_rfl) (fun _ _ _ h => h) (Or.inr ⟨by rfl, rfl⟩) (by assumption) ?_
    try simp only [List.getElem_toArray, List.getElem_cons_zero, List.getElem_cons_succ, Act.put, List.setIfInBounds_toArray, List.set_cons_zero, List.set_cons_succ]
    refine wpAnyH_take (i := 9) (oi := _) (v := undef) rfl (by kernel_rfl) (by kernel_rfl) (by kernel_rfl) (fun _ _ _ h => h) (Or.inr ⟨by rfl, rfl⟩) (by assumption) ?_
    try simp only [List.getElem_toArray, List.getElem_cons_zero, List.getElem_cons_succ, Act.put, List.setIfInBounds_toArray, List.set_cons_zero, List.set_cons_succ]
    refine wpAnyH_take (i := 10) (oi := _) (v := undef) rfl (by kernel_rfl) (by kernel_rfl) (by kernel_rfl) (fun _ _ _ h => h) (Or.inr ⟨by rfl, rfl⟩) (by assumption) ?_
    try simp only [List.getElem_toArray, List.getElem_cons_zero, List.getElem_cons_succ, Act.put, List.setIfInBounds_toArray, List.set_cons_zero, List.set_cons_succ]
    refine wpAnyH_ready (rs := [8]) (by kernel_rfl) (by simp) ?_
    refine AllReadyH.cons (o := _) rfl (fun K hK => ?_) AllReadyH.nil
    rw [if_neg (by simp [Region.wanted, yielded])]
    refine hK.out _ _ ⟨q1, q2, r1, r2⟩ (fun hHeld2 => ?_)
    clear hK K
    try simp only [List.getElem_toArray, List.getElem_cons_zero, List.getElem_cons_succ, Act.put, List.setIfInBounds_toArray, List.set_cons_zero, List.set_cons_succ]
    refine wpAnyH_ready (rs := [11]) (by kernel_rfl) (by simp) ?_
    refine AllReadyH.cons (o := _) rfl (fun K hK => ?_) AllReadyH.nil
    rw [if_neg (by simp [Region.wanted, yielded])]
    refine hK.out _ _ ⟨q1, q2, r1, r2⟩ (fun hHeld2 => ?_)
    clear hK K
    try simp only [List.getElem_toArray, List.getElem_cons_zero, List.getElem_cons_succ, Act.put, List.setIfInBounds_toArray, List.set_cons_zero, List.set_cons_succ]
    refine wpAnyH_take (i := 12) (oi := _) (v := undef) rfl (by kernel_rfl) (by kernel_rfl) (by kernel_rfl) (fun _ _ _ h => h) (Or.inr ⟨by rfl, rfl⟩) (by assumption) ?_
    try simp only [List.getElem_toArray, List.getElem_cons_zero, List.getElem_cons_succ, Act.put, List.setIfInBounds_toArray, List.set_cons_zero, List.set_cons_succ]
    refine wpAnyH_take (i := 13) (oi := _) (v := ?vb13) rfl (by kernel_rfl) (by kernel_rfl) (by kernel_rfl) (fun _ _ _ h => h) (Or.inl ⟨by rfl, ?yb13⟩) (by assumption) ?rb13
    case yb13 => (intro w hSw; (try dsimp only at hSw); go_simp; try with_reducible rfl)
    try simp only [List.getElem_toArray, List.getElem_cons_zero, List.getElem_cons_succ, Act.put, List.setIfInBounds_toArray, List.set_cons_zero, List.set_cons_succ]
    refine wpAnyH_take (i := 14) (oi := _) (v := ?vb14) rfl (by kernel_rfl) (by kernel_rfl) (by kernel_rfl) (fun _ _ _ h => h) (Or.inl ⟨by rfl, ?yb14⟩) (by assumption) ?rb14
    case yb14 => (intro w hSw; (try dsimp only at hSw); go_simp; try with_reducible rfl)
    try simp only [List.getElem_toArray, List.getElem_cons_zero, List.getElem_cons_succ, Act.put, List.setIfInBounds_toArray, List.set_cons_zero, List.set_cons_succ]
    refine wpAnyH_done (by kernel_rfl) ?_ _
    go_wp2_with fail
    go_ret
    exact ⟨rfl, HB.out.drew⟩

end Go.Proofs.YtmgndnbcaeepcaaDoor
