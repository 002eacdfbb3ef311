/-
  AddressBack holds where what it reads is of bulk at most 1048576: whatever the input, where the listed variables of the library read as the program's own text lays them, the call answers true, and each argument reads behind it as it read before; and its tied card.
-/
import Derived.Test.YtmgndnbcaeepcaaDoorLaid
import Derived.Test.YtmgndnbcaeepcaaDoorBackW
import Derived.Test.YtmgndnbcaeepcaaDoorOpenL
namespace Go.Proofs.YtmgndnbcaeepcaaDoor.addressBack
open Go.ChangeShapes Go.WideShapes Go.ChangeAt Go.RowKit Own
open Go.ChangeMaps (open_string shut_string)
set_option linter.unusedVariables false
set_option linter.unusedSimpArgs false
set_option maxRecDepth 100000
theorem reads (os : Os) {H : Type} (enc : TypeId × Value → H) : ∃ places, DataW.whole enc Tryd.prog ((laidWorld os).forCall (fun _ _ => 0) ⟨#[], #[.string ByteArray.empty, .slice none 0 0], []⟩).memory Tryd.f5.params.toList Rows.addressBackSpec.vars false (#[.string ByteArray.empty, .slice none 0 0] : Array Value).toList 8 = some ([.lit (.string []), .nil], [], places) := ⟨[], by kernel_rfl⟩
theorem lifted (os : Os) (started : os.Started) (H : Type) (enc : TypeId × Value → H) (F : Stop.Interp) :
    ReturnsInHanded {} Tryd.checked os 5 .any ((Rows.OpenSpec.upto Rows.addressBackSpec).preRow enc Tryd.prog Tryd.f5 Rows.addressBackUptoRow.domain false Rows.addressBackUptoRow.laid) (((Rows.OpenSpec.upto Rows.addressBackSpec).at F).post enc Tryd.prog Tryd.f5 false true false false) := by
  obtain ⟨places, hx⟩ := reads os enc
  refine returnsInHanded_of_row (C := Tryd.checked) (s := Rows.OpenSpec.upto Rows.addressBackSpec) own started (by kernel_rfl) Tryd.func5
    (witness_row_atRef (enc := enc) (C := Tryd.checked) false (laidWorld os) #[.string ByteArray.empty, .slice none 0 0] rfl (laid_refs os _) (laid_rest os _) (by kernel_rfl)
      (OpenSpec.preRow_of_cond 8 hx (by kernel_rfl) (fun k hk => by cases hk; kernel_rfl) (by kernel_rfl) (laid_met os _))) ?_
  intro W base args ds gs before hval0 hW _ hcond hsz0 hL hshape _
  have hval : ∀ (j : Nat) t v, Tryd.f5.params[j]? = some t → args[j]? = some v → Value.okWide Tryd.prog W .any base t v := hval0
  have hW' := hW
  obtain ⟨p, q, hA0, hV0, rfl, hfz, hnd⟩ := hW
  have hA : DataW.TrodAll enc Tryd.prog W 0 (fun _ => true) true Tryd.f5.params.toList args.toList ds p := hA0
  have hV : DataW.TrodVars enc Tryd.prog W (fun _ => true) [] gs q := hV0
  rw [Tryd.params5] at hA hval
  obtain ⟨v0, vs0, d0, ds0, p0, q0, hargs, rfl, rfl, h0, r0⟩ := trodAll_cons hA
  obtain ⟨v1, vs1, d1, ds1, p1, q1, rfl, rfl, rfl, h1, r1⟩ := trodAll_cons r0
  obtain ⟨rfl, rfl, rfl⟩ := trodAll_nil r1
  obtain rfl : args = #[v0, v1] := by cases args; simp_all
  obtain ⟨rfl, rfl⟩ := trodVars_none hV
  have hk : Rows.uptoSmall H _ = true := hcond _ rfl
  obtain ⟨a0, rfl, rfl, rfl, y0⟩ := open_string Tryd.underlying9 (hval 0 9 v0 rfl rfl) h0
  have z0 : a0.data.toList.length ≤ 1048576 := Bulk.text hk (by simp)
  obtain ⟨l0, rfl⟩ := str_list a0
  have z0 : l0.length ≤ 1048576 := z0
  obtain ⟨A1, n1, c1, rfl⟩ := okWide_slice Tryd.underlying26 (hval 1 26 v1 rfl rfl)
  have k1 := h1
  have lt1 : ∀ x ∈ p1, x.block < W.heap.size := by obtain ⟨m, hm⟩ := k1; exact DataW.trod_lt m _ _ _ hm
  obtain ⟨l1, s1, e1, m1, b1, u1⟩ : ∃ l1 : List Ad.Ad, SrcA W A1 l1 ∧ n1 = l1.length ∧ n1 ≤ c1 ∧ l1.length + 1 ≤ Rows.uptoBulk d1 ∧ (∀ a ∈ l1, a.1.length + a.2.1.length + a.2.2.length + 1 ≤ Rows.uptoBulk d1) := by obtain ⟨fuel, hf⟩ := h1; exact open_addrs rfl hf
  have zb1 := Bulk.bound hk (d := d1) (by simp)
  have hgood := good_of hL hshape
  clear hA0 hval0 hsz0
  refine (back_walk l0 A1 n1 c1 l1 W hgood (good_pos hgood) s1 e1 (by omega) (by omega) (fun a ha => by have := u1 a ha; omega)).mono fun e W' ⟨he, bel⟩ => ?_
  subst he
  exact ⟨_, rfl, _, _, _, [], _, [], hW', trodAll_mk1 (shut_bool Tryd.underlying4 _), (trodAll_cons_mk (shut_string Tryd.underlying9 y0) (trodAll_cons_mk (Below.trod laidOut (by kernel_rfl) (of_decide_eq_true (by kernel_rfl)) k1 bel lt1) trodAll_mk0)), rfl, bel.frame _, fun h => by cases h⟩
theorem row_holds : Rows.AddressBackUptoSaid :=
  OpenClaim.holds_of_cond 5 Tryd.f5 rfl rfl rfl rfl rfl rfl rfl ⟨rfl, rfl, rfl, rfl, rfl⟩ rfl rfl rfl rfl rfl (by kernel_rfl) Tryd.func5 (by kernel_rfl)
    (of_decide_eq_true (by kernel_rfl)) (by unfold Func.isWrapper; first | (rw [if_pos (by decide +kernel)]; kernel_rfl) | (rw [if_neg (by decide +kernel)]; exact ⟨rfl, rfl⟩))
    (fun os started H enc _ F => by rw [OpenClaim.pre_eq_preRow]; exact lifted os started H enc F)
theorem plain (f : FuncId) (fn : Func) (hf : Tryd.pinned.checked.prog.funcNamed "estafette/estafettelaw09.AddressBack" = some f) (hfn : Tryd.pinned.checked.prog.funcs[f]? = some fn) :
    false = Tryd.pinned.checked.prog.looks [] ∧ ∀ (j : Nat) t, fn.params[j]? = some t → Tryd.pinned.checked.prog.wantsStandIn t = false := by
  obtain rfl : f = 5 := Option.some.inj ((show Tryd.prog.funcNamed "estafette/estafettelaw09.AddressBack" = some 5 by kernel_rfl).symm.trans hf) |>.symm
  obtain rfl : fn = Tryd.f5 := (Option.some.inj (Tryd.func5.symm.trans hfn)).symm
  refine ⟨by kernel_rfl, fun j t ht => ?_⟩
  rw [Tryd.params5] at ht
  have h3 : t = 9 ∨ t = 26 := by
    match j, ht with
    | 0, ht => exact Or.inl (by simpa using ht.symm)
    | 1, ht => exact Or.inr ((by simpa using ht.symm))
    | _ + 2, ht => simp at ht
  rcases h3 with rfl | rfl
  · exact (show Tryd.prog.wantsStandIn 9 = false by kernel_rfl)
  · exact (show Tryd.prog.wantsStandIn 26 = false by kernel_rfl)
theorem card_holds : Rows.AddressBackUptoCardSaid :=
  Claim7.holds_tied_plain_at .later [] _ _ _ _ row_holds (fun _ h => by cases h) (by kernel_rfl) (fun _ h => by cases h) addressBackUpto_row_tie rfl ⟨rfl, rfl⟩ (by kernel_rfl) rfl plain (by kernel_rfl)
#print axioms card_holds
end Go.Proofs.YtmgndnbcaeepcaaDoor.addressBack
namespace Go.Proofs.YtmgndnbcaeepcaaDoor
/-- The card, under a short name, for the claim. -/
theorem addressBack_holds : Rows.AddressBackUptoCardSaid := addressBack.card_holds
end Go.Proofs.YtmgndnbcaeepcaaDoor
