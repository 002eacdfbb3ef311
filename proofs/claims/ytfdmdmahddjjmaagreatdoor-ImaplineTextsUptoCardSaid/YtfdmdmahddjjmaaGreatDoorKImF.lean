/-
  Texts of either kind; a blank and a text.
-/
import Derived.Test.YtfdmdmahddjjmaaGreatDoorKImE
import Derived.Test.YtfdmdmahddjjmaaGreatDoorKImV
namespace Go.Proofs.YtfdmdmahddjjmaaGreatDoor
open Go.RowKit Own Im
set_option linter.unusedVariables false
set_option linter.unusedSimpArgs false
set_option maxRecDepth 100000
attribute [local go_sem] str_toList str_size


set_option maxHeartbeats 1000000 in
theorem text_any (f : FuncId) (p : UInt8 → Bool) (he : ∀ args w, (callFunc f args).run Tryz.prog w = .ok (.enter f args) w)
    (hf : ∀ (c : UInt8) (W : World), Calls Tryz.prog f #[.int .u8 c.toNat] W fun e W' => e = .returned (.bool (p c)) ∧ W = W') (b : Nat) (s : Bt) (w : World) (h : RdI w b s) :
    Calls Tryz.prog 54 #[.pointer (some ⟨b, 0, none⟩), .func (.func f) #[] #[]] w fun e w' => Reads b w vText (Im.text p s) e w' := by
  have hrun := fun W hW => run_any f p he hf b s W hW
  have hqu := fun W hW => quoted_any b s W hW
  have hli := fun W hW => literal_any b s W hW
  have H := hid h
  clear h he hf
  obtain ⟨k1, h1⟩ : ∃ k1, Lib.hasPrefix s [34] = k1 := ⟨_, rfl⟩
  obtain ⟨k2, h2⟩ : ∃ k2, Lib.hasPrefix s [123] = k2 := ⟨_, rfl⟩
  have hse1 := fun W hW => sees_any b s [34] W hW
  have hR : Im.text p s = if k1 = true then Im.quoted s else if k2 = true then literal s else if s.takeWhile p = [] then none else some (s.takeWhile p, s.dropWhile p) := by unfold Im.text; rw [h1, h2]
  obtain ⟨R, hRR⟩ : ∃ R, R = Im.text p s := ⟨_, rfl⟩
  rw [← hRR] at hR ⊢
  clear hRR
  cases k1 with
  | true =>
    rw [if_pos rfl] at hR
    have HR := hid hR
    clear hR
    go_enter Tryz.func54, Tryz.ntmps54
    go_wp2_with (first
      | (go_at_call 91; refine (sees_any b s _ _ H.out).mono ?_; rintro e w1 ⟨rfl, rfl⟩; first | rw [h1] | rw [h2])
      | (go_at_call 92; refine (hqu _ H.out).mono ?_; intro e w3 h3; rcases h3.cases with ⟨q3, rfl, o3⟩ | ⟨x3, s3, y3, q3, rfl, rfl, r3, o3⟩ <;> (first | (have O3 := hid o3; have Q3 := hid q3; have R3 := hid r3; clear o3 q3 r3 h3) | (have O3 := hid o3; have Q3 := hid q3; clear o3 q3 h3))))
    · exact ⟨rfl, Reads.panic (HR.out.trans Q3.out) O3.out⟩
    · go_ret
      exact Reads.give (HR.out.trans Q3.out) O3.out rfl R3.out
  | false =>
    rw [if_neg (by simp)] at hR
    cases k2 with
    | true =>
      rw [if_pos rfl] at hR
      have HR := hid hR
      clear hR
      go_enter Tryz.func54, Tryz.ntmps54
      go_wp2_with (first
        | (go_at_call 91; refine (sees_any b s _ _ H.out).mono ?_; rintro e w1 ⟨rfl, rfl⟩; first | rw [h1] | rw [h2])
        | (go_at_call 93; refine (hli _ H.out).mono ?_; intro e w4 h4; rcases h4.cases with ⟨q4, rfl, o4⟩ | ⟨x4, s4, y4, q4, rfl, rfl, r4, o4⟩ <;> (first | (have O4 := hid o4; have Q4 := hid q4; have R4 := hid r4; clear o4 q4 r4 h4) | (have O4 := hid o4; have Q4 := hid q4; clear o4 q4 h4))))
      · exact ⟨rfl, Reads.panic (HR.out.trans Q4.out) O4.out⟩
      · go_ret
        exact Reads.give (HR.out.trans Q4.out) O4.out rfl R4.out
    | false =>
      rw [if_neg (by simp)] at hR
      obtain ⟨T, hT⟩ : ∃ T, T = s.takeWhile p := ⟨_, rfl⟩
      rw [← hT] at hR hrun
      cases T with
      | nil =>
        rw [if_pos rfl] at hR
        have HR := hid hR
        clear hR hT
        go_enter Tryz.func54, Tryz.ntmps54
        go_wp2_with (first
          | (go_at_call 91; refine (sees_any b s _ _ H.out).mono ?_; rintro e w1 ⟨rfl, rfl⟩; first | rw [h1] | rw [h2])
          | (go_at_call 46; refine (hrun _ H.out).mono ?_; rintro e w5 ⟨rfl, r5, o5⟩; have R5 := hid r5; have O5 := hid o5; clear r5 o5)
          | (go_at_call 28; refine (must_f _).mono ?_; rintro e w6 ⟨rfl, rfl⟩))
        exact ⟨rfl, Reads.panic HR.out O5.out⟩
      | cons c T =>
        rw [if_neg (by simp)] at hR
        have HR := hid hR
        clear hR hT
        go_enter Tryz.func54, Tryz.ntmps54
        go_wp2_with (first
          | (go_at_call 91; refine (sees_any b s _ _ H.out).mono ?_; rintro e w1 ⟨rfl, rfl⟩; first | rw [h1] | rw [h2])
          | (go_at_call 46; refine (hrun _ H.out).mono ?_; rintro e w5 ⟨rfl, r5, o5⟩; have R5 := hid r5; have O5 := hid o5; clear r5 o5)
          | (go_at_call 28; refine (must_t _).mono ?_; rintro e w6 ⟨rfl, rfl⟩))
        go_ret
        exact Reads.give HR.out O5.out rfl R5.out

theorem then_any (b : Nat) (s : Bt) (w : World) (h : RdI w b s) :
    Calls Tryz.prog 51 #[.pointer (some ⟨b, 0, none⟩)] w fun e w' => Reads b w vText (Im.then_ s) e w' := by
  have htx := fun s1 W hW => text_any 23 atomB (enters_of Tryz.func23 (by kernel_rfl) rfl) atomc_any b s1 W hW
  have H := hid h
  clear h
  obtain ⟨R, hR⟩ : ∃ R, R = Im.then_ s := ⟨_, rfl⟩
  rw [← hR]
  have HR := hid hR
  clear hR
  go_enter Tryz.func51, Tryz.ntmps51
  go_wp2_with (first
    | (go_at_call 53; refine (sign_any b s [32] _ H.out).mono ?_; intro e w1 h1; rcases sign_cases h1 with ⟨q1, rfl, o1⟩ | ⟨s1, q1, rfl, r1, o1⟩ <;> (first | (have O1 := hid o1; have Q1 := hid q1; have R1 := hid r1; clear o1 q1 r1 h1) | (have O1 := hid o1; have Q1 := hid q1; clear o1 q1 h1)))
    | (go_at_call 54; refine (htx s1 _ R1.out).mono ?_; intro e w2 h2; rcases h2.cases with ⟨q2, rfl, o2⟩ | ⟨x2, s2, y2, q2, rfl, rfl, r2, o2⟩ <;> (first | (have O2 := hid o2; have Q2 := hid q2; have R2 := hid r2; clear o2 q2 r2 h2) | (have O2 := hid o2; have Q2 := hid q2; clear o2 q2 h2))))
  all_goals first
    | (refine ⟨rfl, Reads.panic ?_ (O1.out.trans O2.out)⟩; rw [HR.out]; simp [Im.then_, Q1.out, Q2.out]; done)
    | (refine ⟨rfl, Reads.panic ?_ O1.out⟩; rw [HR.out]; simp [Im.then_, Q1.out]; done)
    | skip
  go_ret
  exact Reads.give (by rw [HR.out]; simp [Im.then_, Q1.out, Q2.out]) (O1.out.trans O2.out) rfl R2.out
end Go.Proofs.YtfdmdmahddjjmaaGreatDoor
