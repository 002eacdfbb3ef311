/-
  Rows of ranges that are read; the reference's Has.
-/
import Derived.Test.YtifjikpinmgfaaaDoorNumb
import Derived.Test.YtifjikpinmgfaaaDoorSet
namespace Go.Proofs.YtifjikpinmgfaaaDoor
open Go.RowKit Own Dec Sq
set_option linter.unusedVariables false
set_option linter.unusedSimpArgs false
set_option maxRecDepth 100000

/-- A row of ranges that is read only: two cells each. -/
def SrcR (w : World) (A : Option Addr) (l : List Rg) : Prop :=
  (A = none → l = []) ∧ ∀ p, A = some p → ∀ j r, l[j]? = some r → w.cell? (p.add (j * 2)) = some (.int .i64 r.1) ∧ w.cell? (p.add (j * 2 + 1)) = some (.int .i64 r.2)
theorem SrcR.below {w w' : World} {A : Option Addr} {l : List Rg} (h : SrcR w A l) (hb : Below w.heap.size w w') : SrcR w' A l :=
  ⟨h.1, fun p hp j r hr => by
    obtain ⟨h1, h2⟩ := h.2 p hp j r hr
    exact ⟨(hb.cell (World.block_lt_of_cell? w _ h1)).trans h1, (hb.cell (World.block_lt_of_cell? w _ h2)).trans h2⟩⟩
theorem spot_of {w : World} {p : Addr} {v : Value} (h : w.cell? p = some v) : p.spot = none := by
  unfold World.cell? at h
  split at h
  · split at h
    · cases h
    · rename_i hs
      cases hp : p.spot with
      | none => rfl
      | some x => rw [hp] at hs; simp at hs
  · cases h
theorem srcR_some {w : World} {A : Option Addr} {l : List Rg} (h : SrcR w A l) (hne : l ≠ []) : ∃ b o, A = some ⟨b, o, none⟩ := by
  cases A with
  | none => exact absurd (h.1 rfl) hne
  | some p =>
    cases l with
    | nil => exact absurd rfl hne
    | cons r l =>
      have h1 := (h.2 p rfl 0 r rfl).1
      rw [Nat.zero_mul] at h1
      have h2 := spot_of h1
      obtain ⟨b, o, s⟩ := p
      have : s = none := h2
      exact ⟨b, o, by rw [this]⟩
theorem SrcR.at_ {w : World} {b o : Nat} {l : List Rg} (h : SrcR w (some ⟨b, o, none⟩) l) {j : Nat} {x y : Int} (hr : l[j]? = some (x, y)) :
    w.cell? ⟨b, o + j * 2, none⟩ = some (.int .i64 x) ∧ w.cell? ⟨b, o + j * 2 + 1, none⟩ = some (.int .i64 y) := by
  obtain ⟨h1, h2⟩ := h.2 _ rfl j _ hr
  rw [Addr.add_lit] at h1 h2
  exact ⟨h1, by rw [← Nat.add_assoc] at h2; exact h2⟩

theorem has_skip {R : Bool} {n g : Int} {r : Rg} {t : List Rg} (h : R = (decide (1 ≤ n) && (inR n g r || t.any (inR n g)))) (hs : ¬ 1 ≤ n ∨ inR n g r = false) : R = has t n g := by
  rw [h]
  unfold has
  rcases hs with hs | hs
  · rw [decide_eq_false hs]; rfl
  · rw [hs]; simp
theorem has_hit {R : Bool} {n g : Int} {r : Rg} {t : List Rg} (h : R = (decide (1 ≤ n) && (inR n g r || t.any (inR n g)))) (h1 : 1 ≤ n) (hs : inR n g r = true) : R = true := by
  rw [h, hs, decide_eq_true h1]; rfl

set_option maxHeartbeats 2000000 in
theorem rhas_any (A : Option Addr) (nn cc : Nat) (l : List Rg) (n g : Int) (w : World) (hs : SrcR w A l) (hn : nn = l.length) (hl : l.length ≤ 4611686018427387904) :
    Calls Tryd.prog 12 #[.slice A nn cc, .int .i64 n, .int .i64 g] w fun e w' => e = .returned (.bool (has l n g)) ∧ w = w' := by
  subst hn
  have HS := hid hs
  clear hs
  obtain ⟨R, hR⟩ : ∃ R, R = has l n g := ⟨_, rfl⟩
  rw [← hR]
  have HR := hid hR
  clear hR
  go_enter Tryd.func12, Tryd.ntmps12
  go_wp2_with fail
  go_loop [7] (fun v7 => ∃ i : Nat, i ≤ l.length ∧ v7 = .int .i64 i ∧ R = has (l.drop i) n g) (fun v7 => l.length - (intOf v7).toNat)
  case atStart => exact ⟨0, Nat.zero_le _, rfl, HR.out⟩
  case round =>
    obtain ⟨i, hi, rfl, hr⟩ := hrel
    by_cases hil : i < l.length
    · obtain ⟨⟨a, b⟩, hab⟩ : ∃ r, l[i]? = some r := ⟨_, List.getElem?_eq_getElem hil⟩
      obtain ⟨bk, of, rfl⟩ := srcR_some HS.out (fun h => by rw [h] at hil; simp at hil)
      obtain ⟨hx1, hx2⟩ := HS.out.at_ hab
      have hdr : l.drop i = (a, b) :: l.drop (i + 1) := by
        obtain ⟨h1, h2⟩ := List.getElem?_eq_some_iff.1 hab
        rw [List.drop_eq_getElem_cons hil, h2]
      rw [hdr] at hr
      have hr2 : R = (decide (1 ≤ n) && (inR n g (a, b) || (l.drop (i + 1)).any (inR n g))) := by rw [hr]; rfl
      have HR2 := hid hr2
      clear hdr hab hr hr2
      go_wp2_with fail
      all_goals simp only [beq_iff_eq, beq_eq_false_iff_ne, ne_eq] at *
      all_goals first
        | (go_round
           case rel => exact ⟨i + 1, by omega, by go_num, has_skip HR2.out (by first | exact .inl ‹¬ (1 : Int) ≤ n› | (right; unfold inR end_; simp only []; (repeat' split) <;> (first | rfl | (exfalso; omega) | (rw [Bool.and_eq_false_iff, decide_eq_false_iff_not, decide_eq_false_iff_not]; omega))))⟩
           case measure => simp [intOf]; omega)
        | (go_ret
           exact ⟨by rw [has_hit HR2.out (by omega) (by unfold inR end_; simp only []; (repeat' split) <;> (first | (exfalso; omega) | (rw [Bool.and_eq_true, decide_eq_true_eq, decide_eq_true_eq]; omega)))]; rfl, rfl⟩)
    · obtain rfl : i = l.length := by omega
      rw [List.drop_length] at hr
      have hr2 : R = false := by rw [hr]; simp [has]
      have HR2 := hid hr2
      clear hr hr2
      go_wp2_with fail
      go_ret
      exact ⟨by rw [HR2.out]; rfl, rfl⟩

end Go.Proofs.YtifjikpinmgfaaaDoor
