/-
  AddressPhrases holds where what it reads is of bulk at most 1048576: whatever the input, where the listed variables of the library read as the program's own text lays them, the call answers true, and each argument reads behind it as it read before; and its tied card.
-/
import Derived.Test.YtmgndnbcaeepcaaDoorLaid
import Derived.Test.YtmgndnbcaeepcaaDoorPhrW
import Derived.Test.YtmgndnbcaeepcaaDoorOpenP
namespace Go.Proofs.YtmgndnbcaeepcaaDoor.addressPhrases
open Go.ChangeShapes Go.WideShapes Go.ChangeAt Go.RowKit Own
open Go.ChangeMaps (open_string shut_string)
set_option linter.unusedVariables false
set_option linter.unusedSimpArgs false
set_option maxRecDepth 100000
theorem reads (os : Os) {H : Type} (enc : TypeId × Value → H) : ∃ places, DataW.whole enc Tryd.prog ((laidWorld os).forCall (fun _ _ => 0) ⟨#[], #[.slice none 0 0, .slice none 0 0], []⟩).memory Tryd.f3.params.toList Rows.addressPhrasesSpec.vars false (#[.slice none 0 0, .slice none 0 0] : Array Value).toList 8 = some ([.nil, .nil], [], places) := ⟨[], by kernel_rfl⟩
theorem lifted (os : Os) (started : os.Started) (H : Type) (enc : TypeId × Value → H) (F : Stop.Interp) :
    ReturnsInHanded {} Tryd.checked os 3 .any ((Rows.OpenSpec.upto Rows.addressPhrasesSpec).preRow enc Tryd.prog Tryd.f3 Rows.addressPhrasesUptoRow.domain false Rows.addressPhrasesUptoRow.laid) (((Rows.OpenSpec.upto Rows.addressPhrasesSpec).at F).post enc Tryd.prog Tryd.f3 false true false false) := by
  obtain ⟨places, hx⟩ := reads os enc
  refine returnsInHanded_of_row (C := Tryd.checked) (s := Rows.OpenSpec.upto Rows.addressPhrasesSpec) own started (by kernel_rfl) Tryd.func3
    (witness_row_atRef (enc := enc) (C := Tryd.checked) false (laidWorld os) #[.slice none 0 0, .slice none 0 0] rfl (laid_refs os _) (laid_rest os _) (by kernel_rfl)
      (OpenSpec.preRow_of_cond 8 hx (by kernel_rfl) (fun k hk => by cases hk; kernel_rfl) (by kernel_rfl) (laid_met os _))) ?_
  intro W base args ds gs before hval0 hW _ hcond hsz0 hL hshape _
  have hval : ∀ (j : Nat) t v, Tryd.f3.params[j]? = some t → args[j]? = some v → Value.okWide Tryd.prog W .any base t v := hval0
  have hW' := hW
  obtain ⟨p, q, hA0, hV0, rfl, hfz, hnd⟩ := hW
  have hA : DataW.TrodAll enc Tryd.prog W 0 (fun _ => true) true Tryd.f3.params.toList args.toList ds p := hA0
  have hV : DataW.TrodVars enc Tryd.prog W (fun _ => true) [] gs q := hV0
  rw [Tryd.params3] at hA hval
  obtain ⟨v0, vs0, d0, ds0, p0, q0, hargs, rfl, rfl, h0, r0⟩ := trodAll_cons hA
  obtain ⟨v1, vs1, d1, ds1, p1, q1, rfl, rfl, rfl, h1, r1⟩ := trodAll_cons r0
  obtain ⟨rfl, rfl, rfl⟩ := trodAll_nil r1
  obtain rfl : args = #[v0, v1] := by cases args; simp_all
  obtain ⟨rfl, rfl⟩ := trodVars_none hV
  have hk : Rows.uptoSmall H _ = true := hcond _ rfl
  obtain ⟨A0, n0, c0, rfl⟩ := okWide_slice Tryd.underlying22 (hval 0 22 v0 rfl rfl)
  have k0 := h0
  have lt0 : ∀ x ∈ p0, x.block < W.heap.size := by obtain ⟨m, hm⟩ := k0; exact DataW.trod_lt m _ _ _ hm
  obtain ⟨l0, s0, e0, m0, b0, u0⟩ : ∃ l0 : List (List UInt8), Src W A0 (sv l0) ∧ n0 = l0.length ∧ n0 ≤ c0 ∧ l0.length + 1 ≤ Rows.uptoBulk d0 ∧ (∀ a ∈ l0, a.length + 1 ≤ Rows.uptoBulk d0) := by obtain ⟨fuel, hf⟩ := h0; exact open_strs rfl hf
  have zb0 := Bulk.bound hk (d := d0) (by simp)
  obtain ⟨A1, n1, c1, rfl⟩ := okWide_slice Tryd.underlying23 (hval 1 23 v1 rfl rfl)
  have k1 := h1
  have lt1 : ∀ x ∈ p1, x.block < W.heap.size := by obtain ⟨m, hm⟩ := k1; exact DataW.trod_lt m _ _ _ hm
  obtain ⟨l1, s1, e1, m1, b1, u1⟩ : ∃ l1 : List Int, Src W A1 (iv l1) ∧ n1 = l1.length ∧ n1 ≤ c1 ∧ l1.length + 1 ≤ Rows.uptoBulk d1 ∧ (l1 = [] ∨ ∃ el sp, d1 = .slice el sp ∧ el.length = l1.length) := by obtain ⟨fuel, hf⟩ := h1; exact open_introw rfl hf
  have z1 : l1.length ≤ 1048576 := by have := Bulk.bound hk (d := d1) (by simp); omega
  have hgood := good_of hL hshape
  clear hA0 hval0 hsz0
  refine (phrases_walk A0 n0 c0 l0 A1 n1 c1 l1 W hgood (good_pos hgood) s0 e0 s1 e1 (by omega) (fun a ha => by have := u0 a ha; omega) (by omega)).mono fun e W' ⟨he, bel⟩ => ?_
  subst he
  exact ⟨_, rfl, _, _, _, [], _, [], hW', trodAll_mk1 (shut_bool Tryd.underlying4 _), (trodAll_cons_mk (Below.trod laidOut (by kernel_rfl) (of_decide_eq_true (by kernel_rfl)) k0 bel lt0) (trodAll_cons_mk (Below.trod laidOut (by kernel_rfl) (of_decide_eq_true (by kernel_rfl)) k1 bel lt1) trodAll_mk0)), rfl, bel.frame _, fun h => by cases h⟩
theorem row_holds : Rows.AddressPhrasesUptoSaid :=
  OpenClaim.holds_of_cond 3 Tryd.f3 rfl rfl rfl rfl rfl rfl rfl ⟨rfl, rfl, rfl, rfl, rfl⟩ rfl rfl rfl rfl rfl (by kernel_rfl) Tryd.func3 (by kernel_rfl)
    (of_decide_eq_true (by kernel_rfl)) (by unfold Func.isWrapper; first | (rw [if_pos (by decide +kernel)]; kernel_rfl) | (rw [if_neg (by decide +kernel)]; exact ⟨rfl, rfl⟩))
    (fun os started H enc _ F => by rw [OpenClaim.pre_eq_preRow]; exact lifted os started H enc F)
theorem plain (f : FuncId) (fn : Func) (hf : Tryd.pinned.checked.prog.funcNamed "estafette/estafettelaw09.AddressPhrases" = some f) (hfn : Tryd.pinned.checked.prog.funcs[f]? = some fn) :
    false = Tryd.pinned.checked.prog.looks [] ∧ ∀ (j : Nat) t, fn.params[j]? = some t → Tryd.pinned.checked.prog.wantsStandIn t = false := by
  obtain rfl : f = 3 := Option.some.inj ((show Tryd.prog.funcNamed "estafette/estafettelaw09.AddressPhrases" = some 3 by kernel_rfl).symm.trans hf) |>.symm
  obtain rfl : fn = Tryd.f3 := (Option.some.inj (Tryd.func3.symm.trans hfn)).symm
  refine ⟨by kernel_rfl, fun j t ht => ?_⟩
  rw [Tryd.params3] at ht
  have h3 : t = 22 ∨ t = 23 := by
    match j, ht with
    | 0, ht => exact Or.inl (by simpa using ht.symm)
    | 1, ht => exact Or.inr ((by simpa using ht.symm))
    | _ + 2, ht => simp at ht
  rcases h3 with rfl | rfl
  · exact (show Tryd.prog.wantsStandIn 22 = false by kernel_rfl)
  · exact (show Tryd.prog.wantsStandIn 23 = false by kernel_rfl)
theorem card_holds : Rows.AddressPhrasesUptoCardSaid :=
  Claim7.holds_tied_plain_at .later [] _ _ _ _ row_holds (fun _ h => by cases h) (by kernel_rfl) (fun _ h => by cases h) addressPhrasesUpto_row_tie rfl ⟨rfl, rfl⟩ (by kernel_rfl) rfl plain (by kernel_rfl)
#print axioms card_holds
end Go.Proofs.YtmgndnbcaeepcaaDoor.addressPhrases
namespace Go.Proofs.YtmgndnbcaeepcaaDoor
/-- The card, under a short name, for the claim. -/
theorem addressPhrases_holds : Rows.AddressPhrasesUptoCardSaid := addressPhrases.card_holds
end Go.Proofs.YtmgndnbcaeepcaaDoor
