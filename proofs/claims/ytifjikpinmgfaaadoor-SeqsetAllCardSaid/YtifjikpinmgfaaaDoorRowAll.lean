/-
  SeqsetAll holds: whatever the input, where the listed variables of the library read as the program's own text lays them, the call answers true, and each argument reads behind it as it read before; and its tied card.
-/
import Derived.Test.YtifjikpinmgfaaaDoorLaid
import Derived.Test.YtifjikpinmgfaaaDoorReads
import Derived.Test.YtifjikpinmgfaaaDoorOpenR
namespace Go.Proofs.YtifjikpinmgfaaaDoor.seqsetAll
open Go.ChangeShapes Go.WideShapes Go.ChangeAt Go.RowKit Own
open Go.ChangeMaps (open_string shut_string)
set_option linter.unusedVariables false
set_option linter.unusedSimpArgs false
set_option maxRecDepth 100000
theorem reads (os : Os) {H : Type} (enc : TypeId × Value → H) : ∃ places, DataW.whole enc Tryd.prog ((laidWorld os).forCall (fun _ _ => 0) ⟨#[], #[.slice none 0 0], []⟩).memory Tryd.f4.params.toList Rows.seqsetAllSpec.vars false (#[.slice none 0 0] : Array Value).toList 8 = some ([.nil], [], places) := ⟨[], by kernel_rfl⟩
theorem lifted (os : Os) (started : os.Started) (H : Type) (enc : TypeId × Value → H) (F : Stop.Interp) :
    ReturnsInHanded {} Tryd.checked os 4 .any ((OpenSpec.ofChange Rows.seqsetAllSpec).preRow enc Tryd.prog Tryd.f4 Rows.seqsetAllRow.domain false Rows.seqsetAllRow.laid) (((OpenSpec.ofChange Rows.seqsetAllSpec).at F).post enc Tryd.prog Tryd.f4 false true false false) := by
  obtain ⟨places, hx⟩ := reads os enc
  refine returnsInHanded_of_row (C := Tryd.checked) (s := OpenSpec.ofChange Rows.seqsetAllSpec) own started (by kernel_rfl) Tryd.func4
    (witness_row_atRef (enc := enc) (C := Tryd.checked) false (laidWorld os) #[.slice none 0 0] rfl (laid_refs os _) (laid_rest os _) (by kernel_rfl)
      (OpenSpec.preRow_of_cond 8 hx (by kernel_rfl) (fun k hk => by cases hk) (by kernel_rfl) (laid_met os _))) ?_
  intro W base args ds gs before hval0 hW _ hcond hsz0 hL hshape _
  have hval : ∀ (j : Nat) t v, Tryd.f4.params[j]? = some t → args[j]? = some v → Value.okWide Tryd.prog W .any base t v := hval0
  have hW' := hW
  have hsz : (DataW.weightsEach Tryd.prog (Tryd.f4.params.toList ++ Rows.seqsetAllSpec.plain.varTypes Tryd.prog) (ds ++ gs)).all (· ≤ reachBytes) = true := hsz0
  rw [Tryd.params4] at hsz
  obtain ⟨p, q, hA0, hV0, rfl, hfz, hnd⟩ := hW
  have hA : DataW.TrodAll enc Tryd.prog W 0 (fun _ => true) true Tryd.f4.params.toList args.toList ds p := hA0
  have hV : DataW.TrodVars enc Tryd.prog W (fun _ => true) [] gs q := hV0
  rw [Tryd.params4] at hA hval
  obtain ⟨v0, vs0, d0, ds0, p0, q0, hargs, rfl, rfl, h0, r0⟩ := trodAll_cons hA
  obtain ⟨rfl, rfl, rfl⟩ := trodAll_nil r0
  obtain rfl : args = #[v0] := by cases args; simp_all
  obtain ⟨rfl, rfl⟩ := trodVars_none hV
  obtain ⟨A0, n0, c0, rfl⟩ := okWide_slice Tryd.underlying23 (hval 0 23 v0 rfl rfl)
  have k0 := h0
  have lt0 : ∀ x ∈ p0, x.block < W.heap.size := by obtain ⟨m, hm⟩ := k0; exact DataW.trod_lt m _ _ _ hm
  obtain ⟨l0, s0, e0, m0, b0, u0⟩ : ∃ l0 : List Int, Src W A0 (iv l0) ∧ n0 = l0.length ∧ n0 ≤ c0 ∧ l0.length + 1 ≤ Rows.uptoBulk d0 ∧ (l0 = [] ∨ ∃ el sp, d0 = .slice el sp ∧ el.length = l0.length) := by obtain ⟨fuel, hf⟩ := h0; exact open_introw rfl hf
  have z0 : l0.length * 8 ≤ 140737488355327 := row_sized hsz (j := 0) (t := 23) (e := 3) rfl rfl Tryd.underlying23 (by kernel_rfl) (u0.imp (fun h => by rw [h]; rfl) id)
  have hgood := good_of hL hshape
  clear hA0 hval0 hsz0
  refine (all_walk A0 n0 c0 l0 W hgood s0 e0 (by omega)).mono fun e W' ⟨he, bel⟩ => ?_
  subst he
  exact ⟨_, rfl, _, _, _, [], _, [], hW', trodAll_mk1 (shut_bool Tryd.underlying4 _), (trodAll_cons_mk (Below.trod laidOut (by kernel_rfl) (of_decide_eq_true (by kernel_rfl)) k0 bel lt0) trodAll_mk0), rfl, bel.frame _, fun h => by cases h⟩
theorem row_holds : Rows.SeqsetAllSaid :=
  OpenClaim.holds_of_cond 4 Tryd.f4 rfl rfl rfl rfl rfl rfl rfl ⟨rfl, rfl, rfl, rfl, rfl⟩ rfl rfl rfl rfl rfl (by kernel_rfl) Tryd.func4 (by kernel_rfl)
    (of_decide_eq_true (by kernel_rfl)) (by unfold Func.isWrapper; first | (rw [if_pos (by decide +kernel)]; kernel_rfl) | (rw [if_neg (by decide +kernel)]; exact ⟨rfl, rfl⟩))
    (fun os started H enc _ F => by rw [OpenClaim.pre_eq_preRow]; exact lifted os started H enc F)
theorem plain (f : FuncId) (fn : Func) (hf : Tryd.pinned.checked.prog.funcNamed "estafette/estafettelaw19.SeqsetAll" = some f) (hfn : Tryd.pinned.checked.prog.funcs[f]? = some fn) :
    true = Tryd.pinned.checked.prog.looks [] ∧ ∀ (j : Nat) t, fn.params[j]? = some t → Tryd.pinned.checked.prog.wantsStandIn t = false := by
  obtain rfl : f = 4 := Option.some.inj ((show Tryd.prog.funcNamed "estafette/estafettelaw19.SeqsetAll" = some 4 by kernel_rfl).symm.trans hf) |>.symm
  obtain rfl : fn = Tryd.f4 := (Option.some.inj (Tryd.func4.symm.trans hfn)).symm
  refine ⟨by kernel_rfl, fun j t ht => ?_⟩
  rw [Tryd.params4] at ht
  have h3 : t = 23 := by
    match j, ht with
    | 0, ht => exact (by simpa using ht.symm)
    | _ + 1, ht => simp at ht
  subst h3
  exact (show Tryd.prog.wantsStandIn 23 = false by kernel_rfl)
theorem card_holds : Rows.SeqsetAllCardSaid :=
  Claim7.holds_tied_plain_at .later [] _ _ _ _ row_holds (fun _ h => by cases h) (by kernel_rfl) (fun _ h => by cases h) seqsetAll_row_tie rfl ⟨rfl, rfl⟩ (by kernel_rfl) rfl plain (by kernel_rfl)
#print axioms card_holds
end Go.Proofs.YtifjikpinmgfaaaDoor.seqsetAll
namespace Go.Proofs.YtifjikpinmgfaaaDoor
/-- The card, under a short name, for the claim. -/
theorem seqsetAll_holds : Rows.SeqsetAllCardSaid := seqsetAll.card_holds
end Go.Proofs.YtifjikpinmgfaaaDoor
