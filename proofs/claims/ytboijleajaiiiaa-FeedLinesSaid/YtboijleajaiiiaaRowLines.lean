/-
  FeedLines holds: whatever the input, the call answers true, and each argument reads behind it as it read before. No condition.
-/
import Derived.Test.YtboijleajaiiiaaRows
import Derived.Test.YtboijleajaiiiaaRow2
import Derived.WalkKit
import Derived.ProofKit
import Derived.OpenShut
import Derived.ShutString
import Derived.ChangeOld
import Derived.Below
import Derived.SizedLaws
import Derived.HandedShaped
import Derived.ChangeSlices
import Derived.Deep.Matrix
namespace Go.Proofs.Ytboijleajaiiiaa.feedLines
open Go.ChangeShapes Go.WideShapes Go.ChangeAt Go.RowKit Own Go.Deep
open Go.ChangeMaps (open_string shut_string)
set_option linter.unusedVariables false
set_option linter.unusedSimpArgs false
theorem own : ownKnob Try.prog.godebug = none := by kernel_rfl
theorem laidOut : laidOutB Try.prog = true := by kernel_rfl
set_option maxRecDepth 100000 in
theorem lifted (os : Os) (started : os.Started) (H : Type) (enc : TypeId × Value → H) :
    ReturnsInHanded {} Try.checked os 4 .any (Rows.feedLinesSpec.pre6 enc Try.prog Try.f4 Rows.feedLinesRow.domain false) (Rows.feedLinesSpec.post enc Try.prog Try.f4 false true false false) := by
  refine returnsInHanded_of_change_shaped (C := Try.checked) own started (by kernel_rfl) Try.func4
    (ChangeSpec.witness6 (enc := enc) (C := Try.checked) false ⟨#[], #[.slice none 0 0], []⟩ 8 (by kernel_rfl) (by kernel_rfl) (by kernel_rfl) (by kernel_rfl)) ?_
  intro W base args ds gs before hval0 hW hcnd hsz0 hshape _
  have hsz : (DataW.weightsEach Try.prog (Try.f4.params.toList ++ Rows.feedLinesSpec.plain.varTypes Try.prog) (ds ++ gs)).all (· ≤ reachBytes) = true := hsz0
  have hval : ∀ (j : Nat) t v, Try.f4.params[j]? = some t → args[j]? = some v → Value.okWide Try.prog W .any base t v := hval0
  have hW' := hW
  obtain ⟨p, q, hA0, hV, rfl, hfz, hnd⟩ := hW
  have hA : DataW.TrodAll enc Try.prog W 0 (fun _ => true) true Try.f4.params.toList args.toList ds p := hA0
  rw [Try.params4] at hA hval hsz
  obtain ⟨v0, vs0, d0, ds0, p0, q0, hargs, rfl, rfl, h0, r0⟩ := trodAll_cons hA
  obtain ⟨rfl, rfl, rfl⟩ := trodAll_nil r0
  obtain rfl : args = #[v0] := by cases args; simp_all
  obtain ⟨rfl, rfl⟩ := trodVars_none hV
  obtain ⟨a0, len0, cap0, rfl⟩ := okWide_slice Try.underlying34 (hval 0 34 v0 rfl rfl)
  have k0 := h0
  have lt0 : ∀ x ∈ p0, x.block < W.heap.size := by obtain ⟨m, hm⟩ := k0; exact DataW.trod_lt m _ _ _ hm
  obtain ⟨A0, C0, R0, b0, w0⟩ : ∃ (A : Nat → Option Addr) (C : Nat → Nat) (R : Nat → List UInt8), len0 ≤ 9223372036854775807 ∧ ∀ r, r < len0 → ∃ a, a0 = some a ∧ W.cell? (a.add r) = some (.slice (A r) (R r).length (C r)) ∧ Src W (A r) (bv (R r)) ∧ (R r).length ≤ 9223372036854775807 := by
    obtain ⟨fuel, hf⟩ := h0
    exact rows_of (open_int_rows Try.underlying34 Try.underlying22 Try.underlying5 (by kernel_rfl) (by kernel_rfl) hf)
  clear hA0 hval0 hsz0 hsz
  obtain ⟨mm, hmm⟩ : ∃ m, W.cell? ⟨0, 0, none⟩ = some (.int .i64 m) := Try.laysM185.s1_3 W hshape
  refine (lines_walk a0 len0 cap0 A0 C0 R0 W mm hmm b0 w0).mono fun e W' ⟨he, bel⟩ => ?_
  subst he
  exact ⟨_, rfl, _, _, _, [], _, [], hW', trodAll_mk1 (shut_bool Try.underlying4 _), (trodAll_cons_mk (Below.trod laidOut (by kernel_rfl) (of_decide_eq_true (by kernel_rfl)) k0 bel lt0) trodAll_mk0), rfl, bel.frame _, fun h => by cases h⟩
theorem over : Rows.feedLinesRow.holds Try.pinned (OpenSpec.ofChange Rows.feedLinesSpec) :=
  OpenClaim.holds_of_wide 4 Try.f4 rfl rfl rfl rfl rfl rfl rfl ⟨rfl, rfl, rfl, rfl, rfl⟩ rfl rfl rfl rfl rfl (by kernel_rfl) Try.func4 (by kernel_rfl)
    (of_decide_eq_true (by kernel_rfl)) (by unfold Func.isWrapper; first | (rw [if_pos (by decide +kernel)]; kernel_rfl) | (rw [if_neg (by decide +kernel)]; exact ⟨rfl, rfl⟩))
    (fun os started H enc _ => lifted os started H enc)
theorem proved : Rows.FeedLinesSaid := over
#print axioms proved
end Go.Proofs.Ytboijleajaiiiaa.feedLines
namespace Go.Proofs.Ytboijleajaiiiaa
/-- The row, under a short name, for the claim. -/
theorem feedLines_holds : Rows.FeedLinesSaid := feedLines.proved
end Go.Proofs.Ytboijleajaiiiaa
