/-
  Every command's reader has its contract: Parse at any text. Rows of items and of keys at a place; two items that are the same.
-/
import Derived.Test.YtfdmdmahddjjmaaGreatDoorKImX
import Derived.Test.YtfdmdmahddjjmaaGreatDoorKImSt
import Derived.Test.YtfdmdmahddjjmaaGreatDoorKImSb
import Derived.Test.YtfdmdmahddjjmaaGreatDoorKImSe
namespace Go.Proofs.YtfdmdmahddjjmaaGreatDoor
open Go.RowKit Own Im
set_option linter.unusedVariables false
set_option linter.unusedSimpArgs false
set_option maxRecDepth 100000
attribute [local go_sem] str_toList str_size

theorem forms_every : ∀ k, k ≤ 10 → FormC (fidOf k) (readF k)
  | 0, _ => nothing_any
  | 1, _ => box_any
  | 2, _ => listed_any
  | 3, _ => login_any
  | 4, _ => rename_any
  | 5, _ => status_any
  | 6, _ => append_any
  | 7, _ => store_any
  | 8, _ => copy_any
  | 9, _ => fetch_any
  | 10, _ => search_any
  | k + 11, h => absurd h (by omega)
theorem parse_every (s : Bt) (w : World) (hG : Gd w) (hs : s.length ≤ 100000000) :
    Calls Tryz.prog 10 #[.string (str s)] w fun e w' => ParsePost w (parseS s) e w' :=
  parse_any s w hG hs fun k h => forms_every k (formK_le h)

theorem GBuf.max {e : TypeId} {sz B : Nat} {w : World} {v : Value} {n : Nat} {xs : List Value} (h : GBuf e sz B w v n xs) : n ≤ maxLen := by
  rcases h.1.2 with ⟨-, rfl⟩ | ⟨g, cap, cur, rfl, hb2, hg, h1, h2, h3, h4⟩
  · exact Nat.zero_le _
  · exact Nat.le_trans h1 h2
theorem ItCells.at {B : Nat} {w : World} : ∀ {l : List It} {xs : List Value} (h : ItCells B w l xs) {i : Nat} {it : It} (hi : l[i]? = some it), ∃ sv, NBuf B w sv it.sec ∧ ∀ (j : Nat) u, (itC it sv)[j]? = some u → xs[i * 6 + j]? = some u
  | [], _, _, i, it, hi => by simp at hi
  | x :: l, xs, ⟨sv, r, h1, h2, h3⟩, 0, it, hi => by
    simp at hi
    subst hi
    refine ⟨sv, h2, fun j u hu => ?_⟩
    rw [h1, Nat.zero_mul, Nat.zero_add, List.getElem?_append_left (by
      have := (List.getElem?_eq_some_iff.1 hu).1
      exact this)]
    exact hu
  | x :: l, xs, ⟨sv, r, h1, h2, h3⟩, i + 1, it, hi => by
    obtain ⟨sv', h4, h5⟩ := ItCells.at h3 (i := i) (it := it) (by simpa using hi)
    refine ⟨sv', h4, fun j u hu => ?_⟩
    rw [h1, List.getElem?_append_right (by simp; omega)]
    rw [show (i + 1) * 6 + j - (itC x sv).length = i * 6 + j by simp; omega]
    exact h5 j u hu
theorem KyCells.at {B : Nat} {w : World} : ∀ {l : List Ky} {xs : List Value} (h : KyCells B w l xs) {i : Nat} {k : Ky} (hi : l[i]? = some k), ∃ sv, Sq.RBuf B w sv k.set ∧ ∀ (j : Nat) u, (kyC k sv)[j]? = some u → xs[i * 5 + j]? = some u
  | [], _, _, i, it, hi => by simp at hi
  | x :: l, xs, ⟨sv, r, h1, h2, h3⟩, 0, it, hi => by
    simp at hi
    subst hi
    refine ⟨sv, h2, fun j u hu => ?_⟩
    rw [h1, Nat.zero_mul, Nat.zero_add, List.getElem?_append_left (by
      have := (List.getElem?_eq_some_iff.1 hu).1
      exact this)]
    exact hu
  | x :: l, xs, ⟨sv, r, h1, h2, h3⟩, i + 1, it, hi => by
    obtain ⟨sv', h4, h5⟩ := KyCells.at h3 (i := i) (k := it) (by simpa using hi)
    refine ⟨sv', h4, fun j u hu => ?_⟩
    rw [h1, List.getElem?_append_right (by simp; omega)]
    rw [show (i + 1) * 5 + j - (kyC x sv).length = i * 5 + j by simp; omega]
    exact h5 j u hu

set_option maxHeartbeats 2000000 in
theorem sameItem_any {B1 B2 : Nat} (it : It) (s1 s2 : Value) (w : World) (h1 : NBuf B1 w s1 it.sec) (h2 : NBuf B2 w s2 it.sec) :
    Calls Tryz.prog 13 #[.agg #[.int .i64 it.kind, s1, .int .i64 it.what, .bool it.peek, .int .i64 it.frm, .int .i64 it.of], .agg #[.int .i64 it.kind, s2, .int .i64 it.what, .bool it.peek, .int .i64 it.frm, .int .i64 it.of]] w fun e w' => e = .returned (.bool true) ∧ Below w.heap.size w w' := by
  have hmax := h1.max
  obtain ⟨A1, c1, rfl, hc1, ha1, hs1⟩ := h1.full
  obtain ⟨A2, c2, rfl, hc2, ha2, hs2⟩ := h2.full
  obtain ⟨kd, sec, wh, pk, fr, of⟩ := it
  dsimp only at *
  have hlen : sec.length ≤ 9223372036854775807 := by unfold maxLen at hmax; omega
  obtain ⟨W, hW⟩ : ∃ W, W = (w.alloc (.cells #[.int .i64 kd, .slice A1 sec.length c1, .int .i64 wh, .bool pk, .int .i64 fr, .int .i64 of] 37)).alloc (.cells #[.int .i64 kd, .slice A2 sec.length c2, .int .i64 wh, .bool pk, .int .i64 fr, .int .i64 of] 37) := ⟨_, rfl⟩
  have a2 : Below w.heap.size w W := by rw [hW]; exact ((Below.refl _ _).alloc (Nat.le_refl _) _).alloc (by simp) _
  have b1 : W.heap[w.heap.size]? = some (.cells #[.int .i64 kd, .slice A1 sec.length c1, .int .i64 wh, .bool pk, .int .i64 fr, .int .i64 of] 37 (0, 0)) := by
    rw [hW]
    exact (((Below.refl (w.alloc _).heap.size (w.alloc _)).alloc (Nat.le_refl _) _).block w.heap.size (by simp)).trans (heap_alloc_new w _)
  have b2 : W.heap[w.heap.size + 1]? = some (.cells #[.int .i64 kd, .slice A2 sec.length c2, .int .i64 wh, .bool pk, .int .i64 fr, .int .i64 of] 37 (0, 0)) := by
    rw [hW]
    have := heap_alloc_new (w.alloc (.cells #[.int .i64 kd, .slice A1 sec.length c1, .int .i64 wh, .bool pk, .int .i64 fr, .int .i64 of] 37)) (.cells #[.int .i64 kd, .slice A2 sec.length c2, .int .i64 wh, .bool pk, .int .i64 fr, .int .i64 of] 37)
    simpa using this
  have z1 : W.cell? ⟨w.heap.size, 1, none⟩ = some (.slice A1 sec.length c1) := by rw [cells_at b1]; rfl
  have z2 : W.cell? ⟨w.heap.size + 1, 1, none⟩ = some (.slice A2 sec.length c2) := by rw [cells_at b2]; rfl
  have A0 := hid a2
  have HW := hid hW
  have n0 : (kd != kd) = false := by simp
  have n1 : (wh != wh) = false := by simp
  have n2 : (pk != pk) = false := by simp
  have n3 : (fr != fr) = false := by simp
  have n4 : (of != of) = false := by simp
  have n5 : ((sec.length : Int) != sec.length) = false := by simp
  clear h1 h2 hmax a2 b1 b2 hW
  go_enter Tryz.func13, Tryz.ntmps13
  go_wp2_with fail
  rw [← HW.out]
  go_loopw [5] (fun v5 wr => ∃ i q : Nat, i ≤ sec.length ∧ v5 = .int .i64 i ∧ wr = W.drewN q) (fun v5 _ => sec.length - (intOf v5).toNat)
  case atStart => exact ⟨0, 0, Nat.zero_le _, rfl, rfl⟩
  case round =>
    obtain ⟨i, q, hi, rfl, rfl⟩ := hrel
    by_cases hil : i < sec.length
    · obtain ⟨n, hn⟩ : ∃ n, sec[i]? = some n := ⟨_, List.getElem?_eq_getElem hil⟩
      have hne : sec ≠ [] := fun h => by rw [h] at hil; simp at hil
      obtain ⟨p1, rfl⟩ : ∃ p, A1 = some p := by
        cases A1 with
        | none => exact absurd (ha1 rfl).1 (by simpa using hne)
        | some p => exact ⟨p, rfl⟩
      obtain ⟨p2, rfl⟩ : ∃ p, A2 = some p := by
        cases A2 with
        | none => exact absurd (ha2 rfl).1 (by simpa using hne)
        | some p => exact ⟨p, rfl⟩
      obtain ⟨g1, rfl, -, k1⟩ := hs1 p1 rfl
      obtain ⟨g2, rfl, -, k2⟩ := hs2 p2 rfl
      have hu : (nv sec)[i]? = some (.int .i64 n) := by simp [nv, hn]
      have x1 := keep_below A0.out rfl (k1 i _ hu)
      have x2 := keep_below A0.out rfl (k2 i _ hu)
      have i0 : (0 : Int) ≤ (i : Int) := by omega
      have i1 : (i : Int) < (sec.length : Int) := by omega
      have nn : (n != n) = false := by simp
      clear hn hne k1 k2 hu hs1 hs2 ha1 ha2
      go_wp2_with fail
      go_quiet (fail)
      go_step
      go_step
      go_wp2_with fail
      go_roundw
      case rel => exact ⟨i + 1, _, by omega, by go_num, rfl⟩
      case measure => simp [intOf]; omega
    · go_wp2_with fail
      go_ret
      exact ⟨rfl, A0.out.trans ⟨rfl, rfl, rfl, Nat.le_refl _, fun _ _ => rfl⟩⟩
end Go.Proofs.YtfdmdmahddjjmaaGreatDoor
