/-
  A command's tag.
-/
import Derived.Test.YtfdmdmahddjjmaaGreatDoorKImB
import Derived.Test.YtfdmdmahddjjmaaGreatDoorPkAd
namespace Go.Proofs.YtfdmdmahddjjmaaGreatDoor
open Go.RowKit Own Im
set_option linter.unusedVariables false
set_option linter.unusedSimpArgs false
set_option maxRecDepth 100000
attribute [local go_sem] str_toList str_size

theorem GoodC.a {w : World} (h : GoodC w) : GoodA w := ⟨h.max⟩
theorem below_q (w : World) (q : Nat) : Below w.heap.size w (w.drewN q) := ⟨rfl, rfl, rfl, Nat.le_refl _, fun _ _ => rfl⟩
theorem cutsp_any (s : List UInt8) (w : World) (hG : GoodA w) (hs : s.length ≤ 2147483648) : Calls Tryz.prog 22 #[.string (str s), .string { data := #[32] }] w fun e w' => e = .returned (.tuple #[.string (str (Lib.cut s [32]).1), .string (str (Lib.cut s [32]).2.1), .bool (Lib.cut s [32]).2.2]) ∧ Below w.heap.size w w' := by
  refine (cut_exact 32 s w hG hs).mono ?_
  rintro e w' ⟨rfl, q, rfl⟩
  exact ⟨rfl, below_q w q⟩
def tagB (c : UInt8) : Bool := atomB c && !decide (c = 43)
theorem cut_le (s : Bt) : (Lib.cut s [32]).1.length ≤ s.length := by
  rcases Spl.first 32 s with hn | ⟨x, y, rfl, hx⟩
  · rw [Spl.cut_none hn]; exact Nat.le_refl _
  · rw [Spl.cut_at _ hx]; simp

set_option maxHeartbeats 2000000 in
theorem tag_any (s : Bt) (w : World) (hG : GoodA w) (hs : s.length ≤ 2147483648) :
    Calls Tryz.prog 9 #[.string (str s)] w fun e w' => e = .returned (.string (str (tagS s))) ∧ Below w.heap.size w w' := by
  have hcut := cutsp_any s w hG hs
  have hl := cut_le s
  have e0 : tagS s = if (Lib.cut s [32]).2.2 = false ∨ (Lib.cut s [32]).1 = [] then [] else if (Lib.cut s [32]).1.all tagB then (Lib.cut s [32]).1 else [] := rfl
  rw [e0]
  clear e0
  obtain ⟨T, rest, ok, hq⟩ : ∃ T rest ok, Lib.cut s [32] = (T, rest, ok) := ⟨_, _, _, rfl⟩
  rw [hq] at hcut hl ⊢
  dsimp only at hcut hl ⊢
  clear hq
  have hsz := str_size T
  cases ok with
  | false =>
    rw [if_pos (.inl rfl)]
    go_enter Tryz.func9, Tryz.ntmps9
    go_wp2_with (first
      | (go_at_call 22; refine hcut.mono ?_; rintro e w1 ⟨rfl, b1⟩; have B1 := hid b1; clear b1))
    go_ret
    exact ⟨rfl, B1.out⟩
  | true =>
    by_cases hT0 : T = []
    · subst hT0
      rw [if_pos (.inr rfl)]
      go_enter Tryz.func9, Tryz.ntmps9
      go_wp2_with (first
        | (go_at_call 22; refine hcut.mono ?_; rintro e w1 ⟨rfl, b1⟩; have B1 := hid b1; clear b1))
      go_ret
      exact ⟨rfl, B1.out⟩
    · rw [if_neg (by rintro (h | h); cases h; exact hT0 h)]
      have hne1 : (T == []) = false := by rw [beq_eq_false_iff_ne]; exact hT0
      have hne2 : T.isEmpty = false := by rw [Bool.eq_false_iff, Ne, List.isEmpty_iff]; exact hT0
      obtain ⟨R, hR⟩ : ∃ R, R = if T.all tagB = true then T else [] := ⟨_, rfl⟩
      rw [← hR]
      have HR := hid hR
      clear hR
      go_enter Tryz.func9, Tryz.ntmps9
      go_wp2_with (first
        | (go_at_call 22; refine hcut.mono ?_; rintro e w1 ⟨rfl, b1⟩; have B1 := hid b1; clear b1))
      go_loopw [6, 21] (fun v6 v21 wr => ∃ i : Nat, i ≤ T.length ∧ v21 = .int .i64 i ∧ (∀ (j : Nat) (c : UInt8), j < i → T[j]? = some c → tagB c = true) ∧ Below w.heap.size w wr) (fun _ v21 _ => T.length - (intOf v21).toNat)
      case atStart => exact ⟨0, Nat.zero_le _, rfl, fun j c h => absurd h (Nat.not_lt_zero _), B1.out⟩
      case round =>
        obtain ⟨i, hi, rfl, hno, hbel⟩ := hrel
        have HB := hid hbel
        have HN := hid hno
        clear hno hbel
        by_cases hil : i < T.length
        · obtain ⟨c, hc⟩ : ∃ c, T[i]? = some c := ⟨_, List.getElem?_eq_getElem hil⟩
          have hix := str_ix hc
          have hat := fun W => atomc_any c W
          have h43 : ((c.toNat : Int) == 43) = decide (c = 43) := byte_eq c 43 (by decide)
          have htb : tagB c = (atomB c && !decide (c = 43)) := rfl
          have HC := hid hc
          obtain ⟨D, hD⟩ : ∃ D, D = atomB c := ⟨_, rfl⟩
          obtain ⟨E, hE⟩ : ∃ E, E = decide (c = 43) := ⟨_, rfl⟩
          rw [← hD, ← hE] at htb
          rw [← hD] at hat
          rw [← hE] at h43
          have HT := hid htb
          clear hD hE hc htb
          have hbad : T.all tagB = false ∨ tagB c = true := by
            cases h : tagB c with
            | true => exact .inr rfl
            | false =>
              left
              rw [Bool.eq_false_iff, Ne, List.all_eq_true]
              intro hall
              rw [hall c (List.mem_of_getElem? HC.out)] at h
              cases h
          have HBAD := hid hbad
          clear hbad
          cases D <;> cases E
          all_goals
            go_wp2_with (go_at_call 23; refine (hat _).mono ?_; rintro e w2 ⟨rfl, rfl⟩)
          all_goals first
            | (go_ret
               refine ⟨?_, HB.out⟩
               have : T.all tagB = false := HBAD.out.resolve_right (by rw [HT.out]; simp)
               rw [HR.out, this]
               rfl)
            | (go_roundw
               case rel =>
                 refine ⟨i + 1, by omega, by go_num, ?_, HB.out⟩
                 intro j z hj hz
                 rcases Nat.lt_succ_iff_lt_or_eq.1 hj with h | rfl
                 · exact HN.out j z h hz
                 · have := hz.symm.trans HC.out
                   cases this
                   rw [HT.out]; rfl
               case measure => simp [intOf]; omega)
        · obtain rfl : i = T.length := by omega
          go_wp2_with fail
          go_ret
          refine ⟨?_, HB.out⟩
          have : T.all tagB = true := by
            rw [List.all_eq_true]
            intro z hz
            obtain ⟨j, hj, rfl⟩ := List.getElem_of_mem hz
            exact HN.out j _ hj (List.getElem?_eq_getElem hj)
          rw [HR.out, this]
          rfl
end Go.Proofs.YtfdmdmahddjjmaaGreatDoor
