/-
  SmtplineSizes walked.
-/
import Derived.Test.YtdbggicpcbecdaaGreatDoorSmC
namespace Go.Proofs.YtdbggicpcbecdaaGreatDoor
open Go.RowKit Own Sm
set_option linter.unusedVariables false
set_option linter.unusedSimpArgs false
set_option maxRecDepth 100000
attribute [local go_sem] str_toList

namespace Sm
def mailT : Bt := [77, 65, 73, 76, 32, 70, 82, 79, 77, 58, 60, 97, 64, 98, 62, 32]
def rcptT : Bt := [82, 67, 80, 84, 32, 84, 79, 58, 60, 97, 64, 98, 62, 32]
def sizeT : Bt := [83, 73, 90, 69, 61]
theorem trim_vis {x : Bt} (hne : x ≠ []) (hv : x.all vis = true) (y : Bt) : Lib.trimRightB (y ++ x) 32 = y ++ x := by
  unfold Lib.trimRightB
  rw [List.reverse_append]
  obtain ⟨c, t, hct⟩ := List.exists_cons_of_ne_nil (l := x.reverse) (by simpa using hne)
  rw [hct, List.cons_append, List.dropWhile_cons_of_neg]
  · rw [← List.cons_append, ← hct, ← List.reverse_append, List.reverse_reverse]
  · have hc : c ∈ x := by rw [← List.mem_reverse, hct]; simp
    have := List.all_eq_true.1 hv c hc
    unfold vis at this
    have h := of_decide_eq_true this
    intro e
    rw [beq_iff_eq] at e
    subst e
    have : (32 : UInt8).toNat = 32 := rfl
    omega
theorem vis_no {x : Bt} (hv : x.all vis = true) : (32 : UInt8) ∉ x := by
  intro h
  have := List.all_eq_true.1 hv 32 h
  simp [vis] at this
theorem triml_vis {x : Bt} (hv : x.all vis = true) : Lib.trimLeftB x 32 = x := by
  unfold Lib.trimLeftB
  cases x with
  | nil => rfl
  | cons c t =>
    rw [List.dropWhile_cons_of_neg]
    intro e
    rw [beq_iff_eq] at e
    exact vis_no hv (by rw [e]; simp)
theorem pathR_eq (key : Bt) (rcpt : Bool) (t p ps : Bt) (more : Bool) (h1 : ¬ t.length < key.length) (h2 : great (t.take key.length) = key) (h3 : Lib.cut (Lib.trimLeftB (t.drop key.length) 32) [32] = (p, ps, more)) (h4 : (Ad.pathP p).2 = 0) (h5 : ¬ (p = [60, 62] ∧ rcpt = true)) :
    pathR key rcpt (32 :: t) = match parR rcpt (ps.length + 1) more ps false 0 with
      | none => .error 160
      | some (odd, n) => if odd = true then .error 1 else .ok (p.tail.dropLast, [], n) := by
  have hk : pathR key rcpt (32 :: t) = if t.length < key.length ∨ great (t.take key.length) ≠ key then .error 160 else
      if (Ad.pathP (Lib.cut (Lib.trimLeftB (t.drop key.length) 32) [32]).1).2 ≠ 0 ∨ (Lib.cut (Lib.trimLeftB (t.drop key.length) 32) [32]).1 = [60, 62] ∧ rcpt = true then .error 160 else match parR rcpt ((Lib.cut (Lib.trimLeftB (t.drop key.length) 32) [32]).2.1.length + 1) (Lib.cut (Lib.trimLeftB (t.drop key.length) 32) [32]).2.2 (Lib.cut (Lib.trimLeftB (t.drop key.length) 32) [32]).2.1 false 0 with
        | none => .error 160
        | some (odd, n) => if odd = true then .error 1 else .ok ((Lib.cut (Lib.trimLeftB (t.drop key.length) 32) [32]).1.tail.dropLast, [], n) := rfl
  rw [hk, if_neg (fun h => h.elim h1 (fun k => k h2)), h3]
  dsimp only
  rw [if_neg (fun h => h.elim (fun k => k h4) h5)]
/-- A command with one parameter. -/
theorem parse_one (x : Bt) (hne : x ≠ []) (hv : x.all vis = true) (r : Bt) (rcpt : Bool)
    (h : (r = mailT ∧ rcpt = false) ∨ (r = rcptT ∧ rcpt = true)) : parseS (r ++ x) = match parR rcpt (x.length + 1) true x false 0 with
      | none => (zero, 160)
      | some (odd, n) => if odd = true then (zero, 1) else ((r.take 4, [97, 64, 98], [], n), 0) := by
  rcases h with ⟨rfl, rfl⟩ | ⟨rfl, rfl⟩
  · have hw : (mailT ++ x).takeWhile isAl = [77, 65, 73, 76] ∧ (mailT ++ x).dropWhile isAl = [32, 70, 82, 79, 77, 58, 60, 97, 64, 98, 62, 32] ++ x := by
      constructor <;> simp [mailT, isAl]
    have e1 : wordOf (mailT ++ x) = [77, 65, 73, 76] := by unfold wordOf; rw [hw.1]; decide +kernel
    have e2 : restOf (mailT ++ x) = [32, 70, 82, 79, 77, 58, 60, 97, 64, 98, 62, 32] ++ x := by unfold restOf; rw [hw.2, trim_vis hne hv]
    unfold parseS
    rw [e1, e2, show formK [77, 65, 73, 76] = some ([70, 82, 79, 77, 58], 3) by decide +kernel]
    dsimp only
    rw [if_neg (by simp)]
    show (match pathR [70, 82, 79, 77, 58] false (32 :: ([70, 82, 79, 77, 58, 60, 97, 64, 98, 62, 32] ++ x)) with
      | .error y => ((zero, y) : Cmd × Int)
      | .ok (p, a, n) => (([77, 65, 73, 76], p, a, n), 0)) = _
    have hcut : Lib.cut (Lib.trimLeftB ([60, 97, 64, 98, 62, 32] ++ x) 32) [32] = ([60, 97, 64, 98, 62], x, true) := by
      rw [show Lib.trimLeftB ([60, 97, 64, 98, 62, 32] ++ x) 32 = [60, 97, 64, 98, 62] ++ 32 :: x by simp [Lib.trimLeftB]]
      exact Spl.cut_at x (by decide)
    have hp : pathR [70, 82, 79, 77, 58] false (32 :: ([70, 82, 79, 77, 58, 60, 97, 64, 98, 62, 32] ++ x)) = match parR false (x.length + 1) true x false 0 with
        | none => .error 160
        | some (odd, n) => if odd = true then .error 1 else .ok ([97, 64, 98], [], n) := by
      exact pathR_eq [70, 82, 79, 77, 58] false ([70, 82, 79, 77, 58, 60, 97, 64, 98, 62, 32] ++ x) [60, 97, 64, 98, 62] x true (by simp) (by show great [70, 82, 79, 77, 58] = _; decide +kernel) hcut (by decide +kernel) (by decide)
    rw [hp]
    cases parR false (x.length + 1) true x false 0 with
    | none => rfl
    | some q =>
      obtain ⟨odd, n⟩ := q
      cases odd <;> rfl
  · have hw : (rcptT ++ x).takeWhile isAl = [82, 67, 80, 84] ∧ (rcptT ++ x).dropWhile isAl = [32, 84, 79, 58, 60, 97, 64, 98, 62, 32] ++ x := by
      constructor <;> simp [rcptT, isAl]
    have e1 : wordOf (rcptT ++ x) = [82, 67, 80, 84] := by unfold wordOf; rw [hw.1]; decide +kernel
    have e2 : restOf (rcptT ++ x) = [32, 84, 79, 58, 60, 97, 64, 98, 62, 32] ++ x := by unfold restOf; rw [hw.2, trim_vis hne hv]
    unfold parseS
    rw [e1, e2, show formK [82, 67, 80, 84] = some ([84, 79, 58], 3) by decide +kernel]
    dsimp only
    rw [if_neg (by simp)]
    show (match pathR [84, 79, 58] true (32 :: ([84, 79, 58, 60, 97, 64, 98, 62, 32] ++ x)) with
      | .error y => ((zero, y) : Cmd × Int)
      | .ok (p, a, n) => (([82, 67, 80, 84], p, a, n), 0)) = _
    have hcut : Lib.cut (Lib.trimLeftB ([60, 97, 64, 98, 62, 32] ++ x) 32) [32] = ([60, 97, 64, 98, 62], x, true) := by
      rw [show Lib.trimLeftB ([60, 97, 64, 98, 62, 32] ++ x) 32 = [60, 97, 64, 98, 62] ++ 32 :: x by simp [Lib.trimLeftB]]
      exact Spl.cut_at x (by decide)
    have hp : pathR [84, 79, 58] true (32 :: ([84, 79, 58, 60, 97, 64, 98, 62, 32] ++ x)) = match parR true (x.length + 1) true x false 0 with
        | none => .error 160
        | some (odd, n) => if odd = true then .error 1 else .ok ([97, 64, 98], [], n) := by
      exact pathR_eq [84, 79, 58] true ([84, 79, 58, 60, 97, 64, 98, 62, 32] ++ x) [60, 97, 64, 98, 62] x true (by simp) (by show great [84, 79, 58] = _; decide +kernel) hcut (by decide +kernel) (by decide)
    rw [hp]
    cases parR true (x.length + 1) true x false 0 with
    | none => rfl
    | some q =>
      obtain ⟨odd, n⟩ := q
      cases odd <;> rfl
theorem parR_one (rcpt : Bool) (x : Bt) (hne : x ≠ []) (hv : x.all vis = true) (k : Nat) : parR rcpt (k + 1) true x false 0 = match (if rcpt = true then none else sizeR x) with
    | none => some (true, 0)
    | some m => some (false, m) := by
  have hcut : Lib.cut (Lib.trimLeftB x 32) [32] = (x, [], false) := by rw [triml_vis hv]; exact Spl.cut_none (vis_no hv)
  have hvp : visP x = true := by unfold visP; rw [hv]; simp [hne]
  rw [parR_step, hcut]
  dsimp only
  rw [if_pos hvp]
  cases (if rcpt = true then none else sizeR x) with
  | none => exact parR_end _ _ _ _ _
  | some m => exact parR_end _ _ _ _ _
/-- A sender's size. -/
theorem parse_size {n : Nat} (hn : n < 4294967296) : parseS (mailT ++ (sizeT ++ Text.digs n)) = (([77, 65, 73, 76], [97, 64, 98], [], (n : Int)), 0) := by
  have hdv : (Text.digs n).all vis = true := by
    rw [List.all_eq_true]
    intro c hc
    have := Dec.digs_dig n c hc
    unfold Dec.isDig at this
    unfold vis
    rw [decide_eq_true_eq]; omega
  have hv : (sizeT ++ Text.digs n).all vis = true := by
    rw [List.all_append, hdv, Bool.and_true]; decide +kernel
  have hg : great (sizeT ++ Text.digs n) = sizeT ++ Text.digs n := by
    unfold great
    rw [List.map_append]
    congr 1
    conv => rhs; rw [← List.map_id (Text.digs n)]
    apply List.map_congr_left
    intro c hc
    have := Dec.digs_dig n c hc
    unfold Dec.isDig at this
    unfold moveB
    rw [if_neg (by omega)]; rfl
  have hnum : Dec.numR (Text.digs n) most = ((n : Int), true) := by
    have h1 := Text.digs_len_pos n
    have h2 := Text.digs_len 9 n (by omega)
    rw [numR_digits _ _ h1 h2 (Dec.digs_dig n), Dec.digs_num, if_neg]
    rintro (h | h)
    · exact h rfl
    · unfold most at h; omega
  have hs : sizeR (sizeT ++ Text.digs n) = some (n : Int) := by
    unfold sizeR
    rw [hg]
    have h5 : (sizeT ++ Text.digs n).drop 5 = Text.digs n := by rw [show 5 = sizeT.length from rfl, List.drop_left]
    rw [h5, hnum, if_pos ⟨by unfold Lib.hasPrefix; rw [List.isPrefixOf_iff_prefix]; exact List.prefix_append _ _, rfl⟩]
  rw [parse_one (sizeT ++ Text.digs n) (by simp [sizeT]) hv mailT false (.inl ⟨rfl, rfl⟩), parR_one false _ (by simp [sizeT]) hv, if_neg (by simp), hs]
  rfl
/-- Small letters are no parameter. -/
theorem parse_word {x : Bt} (hne : x ≠ []) (hx : ∀ c ∈ x, 97 ≤ c.toNat ∧ c.toNat ≤ 122) : parseS (mailT ++ x) = (zero, 1) ∧ parseS (rcptT ++ x) = (zero, 1) := by
  have hv : x.all vis = true := by
    rw [List.all_eq_true]
    intro c hc
    have := hx c hc
    unfold vis
    rw [decide_eq_true_eq]; omega
  have hs : sizeR x = none := by
    unfold sizeR
    rw [if_neg]
    rintro ⟨h, _⟩
    unfold Lib.hasPrefix at h
    rw [List.isPrefixOf_iff_prefix] at h
    obtain ⟨t, ht⟩ := h
    have hm : (61 : UInt8) ∈ great x := by rw [← ht]; simp
    unfold great at hm
    obtain ⟨c, hc, h2⟩ := List.mem_map.1 hm
    have := hx c hc
    unfold moveB at h2
    rw [if_pos (by omega)] at h2
    have h3 := congrArg UInt8.toNat h2
    rw [UInt8.toNat_ofNat'] at h3
    have : (61 : UInt8).toNat = 61 := rfl
    omega
  refine ⟨?_, ?_⟩
  · rw [parse_one x hne hv mailT false (.inl ⟨rfl, rfl⟩), parR_one false x hne hv, if_neg (by simp), hs]
    rfl
  · rw [parse_one x hne hv rcptT true (.inr ⟨rfl, rfl⟩), parR_one true x hne hv, if_pos rfl]
    rfl
end Sm

end Go.Proofs.YtdbggicpcbecdaaGreatDoor
