/-
  A moment's text for a mailbox, at any zone, is read as it: plain laws.
-/
import Derived.Test.YtcfkmckdjappbaaDoorParEq
import Derived.Test.YtcfkmckdjappbaaDoorInner
namespace Go.Proofs.YtcfkmckdjappbaaDoor
open Go.RowKit Own
set_option linter.unusedVariables false
set_option linter.unusedSimpArgs false
set_option maxRecDepth 100000

def monL (m : Int) : List UInt8 := at3 (3 * (m.toNat - 1))
theorem monB_L (m : Int) (h : 1 ≤ m ∧ m ≤ 12) : monB m = str (monL m) := by
  have := monB_at (m.toNat - 1) (by omega)
  rw [show ((m.toNat - 1 + 1 : Nat) : Int) = m by omega] at this
  exact this
theorem lastM_L (m : Int) (h : 1 ≤ m ∧ m ≤ 12) : lastM (monL m) 12 = m := by
  have := (lastM_at (3 * (m.toNat - 1)) (by omega)).1 (by omega)
  unfold monL
  rw [this]
  omega
theorem monL_three (m : Int) (h : 1 ≤ m ∧ m ≤ 12) : ∃ a b c, monL m = [a, b, c] := by
  have h3 : (monL m).length = 3 := by
    have := monB_size m h
    rw [monB_L m h, str_size] at this
    exact this
  obtain ⟨a, l0, e0, h0⟩ := uncons _ h3
  obtain ⟨b, l1, rfl, h1⟩ := uncons l0 h0
  obtain ⟨c, l2, rfl, h2⟩ := uncons l1 h1
  have : l2 = [] := List.eq_nil_of_length_eq_zero h2
  subst this
  exact ⟨a, b, c, e0⟩

theorem dg_dig (n : Nat) : isDig (Text.dg n) := by unfold isDig; rw [Text.dg_nat]; omega
theorem last2 (n : Nat) : Text.lastL 2 n = [Text.dg (n / 10), Text.dg n] := by simp [Text.lastL]
theorem last4 (n : Nat) : Text.lastL 4 n = [Text.dg (n / 1000), Text.dg (n / 100), Text.dg (n / 10), Text.dg n] := by simp [Text.lastL, Nat.div_div_eq_div_mul]
theorem num2 (n : Nat) (h : n < 100) : numI 0 [Text.dg (n / 10), Text.dg n] = n := by
  simp only [numI, Text.dg_nat]; omega
theorem num4 (n : Nat) (h : n < 10000) : numI 0 [Text.dg (n / 1000), Text.dg (n / 100), Text.dg (n / 10), Text.dg n] = n := by
  simp only [numI, Text.dg_nat]; omega
theorem num1 (n : Nat) (h : n < 10) : numI 0 [Text.dg n] = n := by
  simp only [numI, Text.dg_nat]; omega
theorem digB2 (a b : Nat) : digB [Text.dg a, Text.dg b] = true := digB_of (fun c hc => by simp at hc; rcases hc with rfl | rfl <;> exact dg_dig _)
theorem digB4 (a b c d : Nat) : digB [Text.dg a, Text.dg b, Text.dg c, Text.dg d] = true := digB_of (fun c hc => by simp at hc; rcases hc with rfl | rfl | rfl | rfl <;> exact dg_dig _)
theorem digB1 (a : Nat) : digB [Text.dg a] = true := digB_of (fun c hc => by simp at hc; subst hc; exact dg_dig _)
theorem dig2 (n : Nat) (h : n < 100) : digN [Text.dg (n / 10), Text.dg n] = n := by unfold digN; rw [if_pos (digB2 _ _)]; exact num2 n h
theorem dig4 (n : Nat) (h : n < 10000) : digN [Text.dg (n / 1000), Text.dg (n / 100), Text.dg (n / 10), Text.dg n] = n := by unfold digN; rw [if_pos (digB4 _ _ _ _)]; exact num4 n h
theorem dig1 (n : Nat) (h : n < 10) : digN [Text.dg n] = n := by unfold digN; rw [if_pos (digB1 _)]; exact num1 n h

/-- The text of a date and time, at a zone. -/
def txtL (y m d h mi s : Int) (g : UInt8) (zh zm : Nat) : List UInt8 :=
  dayL d ++ ([45] ++ (monL m ++ ([45] ++ (Text.lastL 4 y.toNat ++ ([32] ++ (Text.lastL 2 h.toNat ++ ([58] ++ (Text.lastL 2 mi.toNat ++ ([58] ++ (Text.lastL 2 s.toNat ++ ([32, g] ++ (Text.lastL 2 zh ++ Text.lastL 2 zm))))))))))))

theorem txt_parse (y m d h mi s : Int) (g : UInt8) (zh zm : Nat) (hy : 0 ≤ y ∧ y < 10000) (hm : 1 ≤ m ∧ m ≤ 12) (hd : 1 ≤ d ∧ d ≤ 31) (hh : 0 ≤ h ∧ h < 24) (hmi : 0 ≤ mi ∧ mi < 60) (hs : 0 ≤ s ∧ s < 60) (hg : g = 43 ∨ g = 45) (hzh : zh ≤ 14) (hzm : zm ≤ 59) :
    parseP (txtL y m d h mi s g zh zm) = momP ((secPair y m d h mi s).1 + (if g = 43 then -((zh : Int) * 3600 + zm * 60) else (zh : Int) * 3600 + zm * 60)) (secPair y m d h mi s).2 := by
  rw [parse_eq]
  obtain ⟨m0, m1, m2, hmon⟩ := monL_three m hm
  have hlm := lastM_L m hm
  have hday : ∃ a b, dayL d = [a, b] ∧ ¬ a = 48 ∧ digB (if a = 32 then [b] else [a, b]) = true ∧ digN (if a = 32 then [b] else [a, b]) = d := by
    unfold dayL
    by_cases c : d < 10
    · rw [if_pos c]
      refine ⟨32, Text.dg d.toNat, rfl, by decide, ?_, ?_⟩
      · rw [if_pos rfl]; exact digB1 _
      · rw [if_pos rfl, dig1 _ (by omega)]; omega
    · rw [if_neg c, last2]
      have hne : ∀ x : UInt8, x.toNat < 49 → ¬ Text.dg (d.toNat / 10) = x := by
        intro x hx e
        have := congrArg UInt8.toNat e
        rw [Text.dg_nat] at this
        omega
      refine ⟨_, _, rfl, hne 48 (by decide), ?_, ?_⟩
      · rw [if_neg (hne 32 (by decide))]; exact digB2 _ _
      · rw [if_neg (hne 32 (by decide)), dig2 _ (by omega)]; omega
  obtain ⟨a, b, hdl, ha, hdb, hdn⟩ := hday
  have e : txtL y m d h mi s g zh zm = [a, b, 45, m0, m1, m2, 45, Text.dg (y.toNat / 1000), Text.dg (y.toNat / 100), Text.dg (y.toNat / 10), Text.dg y.toNat, 32, Text.dg (h.toNat / 10), Text.dg h.toNat, 58, Text.dg (mi.toNat / 10), Text.dg mi.toNat, 58, Text.dg (s.toNat / 10), Text.dg s.toNat, 32, g, Text.dg (zh / 10), Text.dg zh, Text.dg (zm / 10), Text.dg zm] := by
    unfold txtL
    rw [hdl, hmon, last4, last2, last2, last2, last2, last2]
    rfl
  rw [e]
  clear e
  rw [hmon] at hlm
  have hyN := dig4 y.toNat (by omega)
  have hhN := dig2 h.toNat (by omega)
  have hmN := dig2 mi.toNat (by omega)
  have hsN := dig2 s.toNat (by omega)
  have hzN := dig2 zh (by omega)
  have hzN2 := dig2 zm (by omega)
  have by4 := digB4 (y.toNat / 1000) (y.toNat / 100) (y.toNat / 10) y.toNat
  have bh := digB2 (h.toNat / 10) h.toNat
  have bm := digB2 (mi.toNat / 10) mi.toNat
  have bs := digB2 (s.toNat / 10) s.toNat
  have bz := digB2 (zh / 10) zh
  have bz2 := digB2 (zm / 10) zm
  generalize Text.dg (y.toNat / 1000) = y0 at *
  generalize Text.dg (y.toNat / 100) = y1 at *
  generalize Text.dg (y.toNat / 10) = y2 at *
  generalize Text.dg y.toNat = y3 at *
  generalize Text.dg (h.toNat / 10) = h0 at *
  generalize Text.dg h.toNat = h1 at *
  generalize Text.dg (mi.toNat / 10) = i0 at *
  generalize Text.dg mi.toNat = i1 at *
  generalize Text.dg (s.toNat / 10) = s0 at *
  generalize Text.dg s.toNat = s1 at *
  generalize Text.dg (zh / 10) = z0 at *
  generalize Text.dg zh = z1 at *
  generalize Text.dg (zm / 10) = z2 at *
  generalize Text.dg zm = z3 at *
  have hq : dayQ [a, b, 45, m0, m1, m2, 45, y0, y1, y2, y3, 32, h0, h1, 58, i0, i1, 58, s0, s1, 32, g, z0, z1, z2, z3] = if a = 32 then [b] else [a, b] := rfl
  unfold rparseP
  rw [if_neg (c := List.length _ ≠ 26) (by simp), if_neg (c := bad1 _ _ _ _ _ _ _ = true) (by
    show ¬ bad1 45 45 32 58 58 32 g = true
    rcases hg with rfl | rfl <;> decide), hq]
  show (if bad2 (if a = 32 then [b] else [a, b]) [y0, y1, y2, y3] [h0, h1] [i0, i1] [s0, s1] [z0, z1] [z2, z3] a = true then _ else momP ((secPair (digN [y0, y1, y2, y3]) (lastM [m0, m1, m2] 12) (digN (if a = 32 then [b] else [a, b])) (digN [h0, h1]) (digN [i0, i1]) (digN [s0, s1])).1 + (if g = 43 then -(digN [z0, z1] * 3600 + digN [z2, z3] * 60) else digN [z0, z1] * 3600 + digN [z2, z3] * 60)) (secPair (digN [y0, y1, y2, y3]) (lastM [m0, m1, m2] 12) (digN (if a = 32 then [b] else [a, b])) (digN [h0, h1]) (digN [i0, i1]) (digN [s0, s1])).2) = _
  rw [if_neg (by
    unfold bad2
    rw [hdb, by4, bh, bm, bs, bz, bz2, hzN, hzN2, beq_eq_false_iff_ne.mpr ha, decide_eq_false (show ¬ (14 : Int) < (zh : Int) by omega), decide_eq_false (show ¬ (59 : Int) < (zm : Int) by omega)]
    decide), hyN, hlm, hdn, hhN, hmN, hsN, hzN, hzN2]
  rw [show (y.toNat : Int) = y by omega, show (h.toNat : Int) = h by omega, show (mi.toNat : Int) = mi by omega, show (s.toNat : Int) = s by omega]

end Go.Proofs.YtcfkmckdjappbaaDoor
