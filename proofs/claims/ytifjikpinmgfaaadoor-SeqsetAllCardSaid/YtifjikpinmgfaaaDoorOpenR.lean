/-
  What an argument of ranges or of ints reads as; how much of it there may be.
-/
import Derived.Test.YtifjikpinmgfaaaDoorOpen
import Derived.Test.YtifjikpinmgfaaaDoorIBuf
import Derived.Test.YtifjikpinmgfaaaDoorRHas
import Derived.Deep.SlicePairs
import Derived.SizedLaws
namespace Go.Proofs.YtifjikpinmgfaaaDoor
open Go.RowKit Own Sq
open Go.ChangeShapes Go.WideShapes
set_option linter.unusedVariables false
set_option linter.unusedSimpArgs false

/-- An argument of ints. -/
theorem open_introw {H : Type} {enc : TypeId × Value → H} {w : World} {base : Nat} {spare : Nat → Bool} {held : Bool} {fuel : Nat} {v : Value} {d : DataW H} {p : List MemPlace} {A : Option Addr} {n c : Nat} (hv : v = .slice A n c)
    (h : DataW.trod enc Tryd.prog w base spare held fuel 23 v.cells.toList = some (d, p)) :
    ∃ l : List Int, Src w A (iv l) ∧ n = l.length ∧ n ≤ c ∧ l.length + 1 ≤ Rows.uptoBulk d ∧ (l = [] ∨ ∃ el sp, d = .slice el sp ∧ el.length = l.length) := by
  subst hv
  rcases open_ints Tryd.underlying23 Tryd.underlying3 (by kernel_rfl) h with ⟨hcs, hd⟩ | ⟨x, ln, c', zs, hcs, _, hl, hm, hz, hd, hcell, hwz⟩
  · simp [Value.cells] at hcs
    obtain ⟨rfl, rfl, rfl⟩ := hcs
    exact ⟨[], Src.empty, rfl, Nat.le_refl _, Bulk.one_le d, .inl rfl⟩
  · simp [Value.cells] at hcs
    obtain ⟨rfl, rfl, rfl⟩ := hcs
    have hzl : n ≤ zs.length := by rw [hz]; split <;> omega
    obtain ⟨rfl, _⟩ : d = _ ∧ p = _ := by simpa using hd
    refine ⟨zs.take n, ⟨fun h => by simp at h, fun p hp j u hu => ?_⟩, by simp; omega, hl, ?_, .inr ⟨_, _, rfl, by simp [lits]⟩⟩
    · simp at hp
      subst hp
      simp only [iv, List.getElem?_map] at hu
      rw [List.getElem?_take] at hu
      split at hu
      · rename_i hj
        have hjz : j < zs.length := by omega
        rw [List.getElem?_eq_getElem hjz] at hu
        simp at hu
        rw [hcell j hjz, ← hu]
        simp [List.getElem?_eq_getElem hjz]
      · simp at hu
    · have := Bulk.length_le (lits (H := H) IntKind.i64 (zs.take n))
      simp only [Rows.uptoBulk]
      simp [lits] at this ⊢
      omega

/-- An argument of ranges. -/
theorem open_ranges {H : Type} {enc : TypeId × Value → H} {w : World} {base : Nat} {spare : Nat → Bool} {held : Bool} {fuel : Nat} {v : Value} {d : DataW H} {p : List MemPlace} {A : Option Addr} {n c : Nat} (hv : v = .slice A n c)
    (h : DataW.trod enc Tryd.prog w base spare held fuel 22 v.cells.toList = some (d, p)) :
    ∃ l : List Rg, SrcR w A l ∧ n = l.length ∧ n ≤ c ∧ l.length + 1 ≤ Rows.uptoBulk d ∧ (l = [] ∨ ∃ el sp, d = .slice el sp ∧ el.length = l.length) := by
  subst hv
  rcases Go.Deep.open_slice_pairs Tryd.underlying22 Tryd.underlying30 (by kernel_rfl) rfl rfl (by kernel_rfl) (by kernel_rfl) h with ⟨hcs, hd⟩ | ⟨a, ln, c', m, k, V0, V1, D0, D1, P0, P1, hcs, _, hl, hm, hmm, hd, hcell⟩
  · simp [Value.cells] at hcs
    obtain ⟨rfl, rfl, rfl⟩ := hcs
    exact ⟨[], ⟨fun _ => rfl, fun p hp => by cases hp⟩, rfl, Nat.le_refl _, Bulk.one_le d, .inl rfl⟩
  · simp [Value.cells] at hcs
    obtain ⟨rfl, rfl, rfl⟩ := hcs
    have hzl : n ≤ m := by rw [hmm]; split <;> omega
    obtain ⟨rfl, _⟩ : d = _ ∧ p = _ := by simpa using hd
    have each : ∀ i, i < m → ∃ r : Rg, V0 i = .int .i64 r.1 ∧ V1 i = .int .i64 r.2 := by
      intro i hi
      obtain ⟨_, _, h3, h4⟩ := hcell i hi
      obtain ⟨x, hx, _, _⟩ := DataW.trod_int Tryd.underlying3 h3
      obtain ⟨y, hy, _, _⟩ := DataW.trod_int Tryd.underlying3 h4
      exact ⟨(x, y), by simpa using hx, by simpa using hy⟩
    obtain ⟨f, hf⟩ := Go.Deep.choose_lt each
    refine ⟨(List.range n).map f, ⟨fun h => by simp at h, fun p hp j r hr => ?_⟩, by simp, hl, ?_, .inr ⟨_, _, rfl, by simp⟩⟩
    · simp at hp
      subst hp
      simp only [List.getElem?_map] at hr
      by_cases hj : j < n
      · rw [List.getElem?_range hj] at hr
        obtain rfl : f j = r := by simpa using hr
        obtain ⟨h1, h2, _, _⟩ := hcell j (by omega)
        obtain ⟨e1, e2⟩ := hf j (by omega)
        rw [h1, h2, e1, e2]
        exact ⟨rfl, rfl⟩
      · rw [List.getElem?_eq_none (by simp; omega)] at hr
        simp at hr
    · have := Bulk.length_le ((List.range n).map fun i => (DataW.agg [D0 i, D1 i] : DataW H))
      simp only [Rows.uptoBulk]
      simp at this ⊢
      omega

/-- How long a row may be: what the condition on sizes says. -/
theorem row_sized {H : Type} {ts : List TypeId} {ds : List (DataW H)} (hsz : (DataW.weightsEach Tryd.prog ts ds).all (· ≤ reachBytes) = true) {j : Nat} {t e : TypeId} {d : DataW H} {n b : Nat} (ht : ts[j]? = some t) (hd : ds[j]? = some d)
    (hu : Tryd.prog.underlying t = some (.slice e)) (hb : Tryd.prog.bytesOf e = b) (h : n = 0 ∨ ∃ el sp, d = .slice el sp ∧ el.length = n) : n * b ≤ 140737488355327 := by
  rcases h with rfl | ⟨el, sp, rfl, rfl⟩
  · omega
  · have h1 := sized_slice hsz ht hd hu
    have h2 := reachBytes_lt
    rw [hb] at h1
    have h3 : el.length * b ≤ (el.length + sp.length) * b := Nat.mul_le_mul_right _ (by omega)
    have : (2 : Nat) ^ 47 = 140737488355328 := rfl
    omega

end Go.Proofs.YtifjikpinmgfaaaDoor
