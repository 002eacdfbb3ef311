/-
  The reference's Print of a set; two sets that are written alike.
-/
import Derived.Test.YtifjikpinmgfaaaDoorPrint2
namespace Go.Proofs.YtifjikpinmgfaaaDoor
open Go.RowKit Own Dec Sq
set_option linter.unusedVariables false
set_option linter.unusedSimpArgs false
set_option maxRecDepth 100000

namespace Sq
theorem joinTail_snoc (sep y : List UInt8) (r : List (List UInt8)) : Lib.joinTail sep (r ++ [y]) = Lib.joinTail sep r ++ sep ++ y := by simp [Lib.joinTail]
theorem join_snoc (sep y : List UInt8) {xs : List (List UInt8)} (h : xs ≠ []) : Lib.join (xs ++ [y]) sep = Lib.join xs sep ++ sep ++ y := by
  cases xs with
  | nil => exact absurd rfl h
  | cons x r => rw [List.cons_append, Lib.join_cons, Lib.join_cons, joinTail_snoc]; simp
end Sq

theorem rtxt_any (n : Int) (w : World) (h0 : 0 ≤ n) (h1 : n ≤ 4294967295) :
    Calls Tryd.prog 29 #[.int .i64 n] w fun e w' => e = .returned (.string (str (txt n))) ∧ Below w.heap.size w w' := by
  by_cases h : n = 0
  · have e1 : (n == 0) = true := by simpa using h
    have ht : txt n = [42] := by unfold txt; rw [if_pos h]
    rw [ht]
    clear h ht
    go_enter Tryd.func29, Tryd.ntmps29
    go_wp2
    go_ret
    exact ⟨rfl, Below.refl _ _⟩
  · obtain ⟨k, rfl⟩ : ∃ k : Nat, n = k := ⟨n.toNat, by omega⟩
    have e1 : ((k : Int) == 0) = false := by simpa using h
    have ht : txt (k : Int) = Text.digs k := by unfold txt; rw [if_neg h, itoa_digs]
    rw [ht]
    have hit := digits_any k w (by omega)
    clear h ht
    go_enter Tryd.func29, Tryd.ntmps29
    go_wp2_with ((go_at_call 41; refine hit.mono ?_; rintro e w1 ⟨rfl, hb1⟩))
    go_ret
    exact ⟨rfl, hb1⟩

attribute [local go_sem] str_toList str_size ByteArray.size_append
set_option maxHeartbeats 4000000 in
theorem rprint_any (A : Option Addr) (nn cc : Nat) (l : List Rg) (w : World) (hs : SrcR w A l) (hn : nn = l.length) (hl : l.length ≤ 100000000) :
    Calls Tryd.prog 17 #[.slice A nn cc] w fun e w' => e = .returned (.tuple #[.string (str (printS l).1), .int .i64 (printS l).2]) ∧ Below w.heap.size w w' := by
  subst hn
  obtain ⟨R, E, hRE⟩ : ∃ R E, printS l = (R, E) := ⟨_, _, rfl⟩
  rw [hRE]
  have HRE := hid hRE
  have HS := hid hs
  clear hRE hs
  go_enter Tryd.func17, Tryd.ntmps17
  go_wp2_with fail
  go_loopw [5] (fun v5 wr => ∃ i : Nat, i ≤ l.length ∧ v5 = .int .i64 i ∧ (l.take i).all okR = true ∧ Below w.heap.size w wr) (fun v5 _ => l.length - (intOf v5).toNat)
  case atStart => exact ⟨0, Nat.zero_le _, rfl, rfl, Below.refl _ _⟩
  case round =>
    obtain ⟨i, hi, rfl, hall, hbel⟩ := hrel
    have HALL := hid hall
    have HBE := hid hbel
    by_cases hil : i < l.length
    · obtain ⟨⟨a, b⟩, hab⟩ : ∃ r, l[i]? = some r := ⟨_, List.getElem?_eq_getElem hil⟩
      obtain ⟨bk, of, rfl⟩ := srcR_some HS.out (fun h => by rw [h] at hil; simp at hil)
      obtain ⟨hx1, hx2⟩ := (HS.out.below hbel).at_ hab
      have htk := take_snoc hab
      have hmem : (a, b) ∈ l := List.mem_of_getElem? hab
      have HAB := hid (And.intro htk hmem)
      clear hab htk hmem hall hbel
      by_cases hok : 0 ≤ a ∧ a ≤ 4294967295 ∧ 0 ≤ b ∧ b ≤ 4294967295
      · obtain ⟨h1, h2, h3, h4⟩ := hok
        have hall2 : (l.take (i + 1)).all okR = true := by rw [HAB.out.1, List.all_append, HALL.out]; simp [okR, h1, h2, h3, h4]
        have HALL2 := hid hall2
        clear hall2
        go_wp2_with fail
        go_roundw
        case rel => exact ⟨i + 1, by omega, by go_num, HALL2.out, HBE.out.alloc HBE.out.size _⟩
        case measure => simp [intOf]; omega
      · have he : R = [] ∧ E = 190 := by
          have hf : l.all okR = false := by
            cases hq : l.all okR with
            | false => rfl
            | true =>
              have := okR_iff (List.all_eq_true.1 hq _ HAB.out.2)
              exact absurd this hok
          have := HRE.out
          unfold printS at this
          rw [if_pos hf] at this
          simp only [Prod.mk.injEq] at this
          exact ⟨this.1.symm, this.2.symm⟩
        have HE := hid he
        have HOK := hid hok
        clear he hok
        go_wp2_with fail
        all_goals first
          | exact bodyPost_ret (v := .tuple #[.string (str []), .int .i64 190]) (by simp [results, Tryd.results17, go_sem]; first | done | rfl) rfl ⟨by rw [HE.out.1, HE.out.2], HBE.out.alloc HBE.out.size _⟩
          | (exfalso; have := HOK.out; omega)
    · obtain rfl : i = l.length := by omega
      rw [List.take_length] at hall
      have hre := HRE.out
      unfold printS at hre
      rw [if_neg (by rw [hall]; simp)] at hre
      have HALL3 := hid hall
      clear hall HALL hil hi hbel
      by_cases h0 : l.length = 0
      · rw [if_pos h0] at hre
        simp only [Prod.mk.injEq] at hre
        have HE := hid (And.intro hre.1.symm hre.2.symm)
        have e1 : ((l.length : Int) == 0) = true := by rw [beq_iff_eq]; omega
        clear hre h0
        go_wp2_with fail
        exact bodyPost_ret (v := .tuple #[.string (str []), .int .i64 190]) (by simp [results, Tryd.results17, go_sem]; first | done | rfl) rfl ⟨by rw [HE.out.1, HE.out.2], HBE.out⟩
      · rw [if_neg h0] at hre
        have e1 : ((l.length : Int) == 0) = false := by rw [beq_eq_false_iff_ne]; omega
        by_cases h16 : 16 < l.length
        · rw [if_pos h16] at hre
          simp only [Prod.mk.injEq] at hre
          have HE := hid (And.intro hre.1.symm hre.2.symm)
          clear hre h0
          go_wp2_with fail
          exact bodyPost_ret (v := .tuple #[.string (str []), .int .i64 5]) (by simp [results, Tryd.results17, go_sem]; first | done | rfl) rfl ⟨by rw [HE.out.1, HE.out.2], HBE.out⟩
        · rw [if_neg h16] at hre
          simp only [Prod.mk.injEq] at hre
          have HE := hid (And.intro hre.1.symm hre.2.symm)
          clear hre h0
          rename_i wr1
          go_wp2_with fail
          go_loopw [4, 7] (fun v4 v7 wr => ∃ (i : Nat) (S : List UInt8), i ≤ l.length ∧ v7 = .int .i64 i ∧ S = Lib.join ((l.take i).map rtxt) [44] ∧ S.length ≤ 22 * i ∧ v4 = .string (str S) ∧ Below w.heap.size w wr) (fun _ v7 _ => l.length - (intOf v7).toNat)
          case atStart => exact ⟨0, [], Nat.zero_le _, rfl, rfl, by simp, rfl, HBE.out⟩
          case round =>
            obtain ⟨i, S, hi, rfl, hS, hSl, rfl, hbel⟩ := hrel
            have HB := hid hbel
            have HJ := hid hS
            by_cases hil : i < l.length
            · obtain ⟨⟨a, b⟩, hab⟩ : ∃ r, l[i]? = some r := ⟨_, List.getElem?_eq_getElem hil⟩
              obtain ⟨bk, of, rfl⟩ := srcR_some HS.out (fun h => by rw [h] at hil; simp at hil)
              obtain ⟨hx1, hx2⟩ := (HS.out.below hbel).at_ hab
              have hok := List.all_eq_true.1 HALL3.out _ (List.mem_of_getElem? hab)
              obtain ⟨ha0, ha1, hb0, hb1⟩ := okR_iff hok
              dsimp only at ha0 ha1 hb0 hb1
              have hrl := rtxt_len hok
              have hmap : (l.take (i + 1)).map rtxt = (l.take i).map rtxt ++ [rtxt (a, b)] := by rw [take_snoc hab, List.map_append]; rfl
              have hta := fun W => rtxt_any a W ha0 ha1
              have htb := fun W => rtxt_any b W hb0 hb1
              have hla := txt_len ha0 ha1
              have hlb := txt_len hb0 hb1
              obtain ⟨S1, hS1⟩ : ∃ S1, S1 = (if i = 0 then S else S ++ [44]) := ⟨_, rfl⟩
              have hS1l : S1.length ≤ 22 * i + (if i = 0 then 0 else 1) := by rw [hS1]; split <;> simp <;> omega
              have hjn : Lib.join ((l.take (i + 1)).map rtxt) [44] = S1 ++ rtxt (a, b) := by
                rw [hmap, hS1]
                by_cases hi0 : i = 0
                · rw [if_pos hi0, hS, hi0]; simp [Lib.join_one, Lib.join_nil]
                · rw [if_neg hi0, join_snoc _ _ (by cases l with | nil => simp at hil | cons r t => cases i with | zero => exact absurd rfl hi0 | succ i => simp), hS]
              have HJN := hid hjn
              have hxs : str S ++ ({ data := #[44] } : ByteArray) = str (S ++ [44]) := str_append S [44]
              have i0 : (0 : Int) ≤ (i : Int) := by omega
              have i1 : (i : Int) < (l.length : Int) := by omega
              have hSb : (str S).size ≤ 400 := by rw [str_size]; omega
              clear hab hok hmap hbel hS
              by_cases hi0 : i = 0
              · by_cases hne : a = b
                · skip
                  obtain rfl : S1 = S := by rw [hS1, if_pos hi0]
                  have hi1 : i ≤ 0 := by omega
                  have hSl1 : S1.length ≤ 400 := by omega
                  have e2 : (a != b) = false := by simpa using hne
                  have hr : rtxt (a, b) = txt a := by unfold rtxt; rw [if_pos hne]
                  have hjn := HJN.out
                  rw [hr] at hjn
                  have hap1 : str S1 ++ str (txt a) = str (S1 ++ txt a) := str_append _ _
                  have hjl : (Lib.join ((l.take (i + 1)).map rtxt) [44]).length ≤ 22 * (i + 1) := by rw [HJN.out, List.length_append]; omega
                  rw [hjn] at hjl
                  have hUl : (S1 ++ txt a).length ≤ 420 := by rw [List.length_append]; omega
                  have hTl : (txt a).length ≤ 10 := hla
                  generalize S1 ++ txt a = U at *
                  have HJ2 := hid hjn
                  have HJL := hid hjl
                  clear hjn hjl hr hne hi0 hS1 hS1l HJ HJN
                  generalize txt a = TA at *
                  generalize txt b = TB at *
                  have tok0 : Tk 0 := ⟨⟩
                  go_wp2_with (first
                    | (go_at_call 29; have t_ : Tk 0 := ‹Tk 0›; refine (hta _).mono ?_; rintro e w2 ⟨rfl, c2⟩; have b2 := hid (below_then HB.out c2); have hc0 := keep_below c2 rfl hx1; have hc1 := keep_below c2 rfl hx2; clear c2; clear t_; clear tok0; have tok1 : Tk 1 := ⟨⟩))
                  go_quiet (fail)
                  go_step
                  go_step
                  go_wp2_with fail
                  go_roundw
                  case rel => exact ⟨i + 1, U, by omega, by go_num, HJ2.out.symm, HJL.out, rfl, below_dn b2.out _⟩
                  case measure => simp [intOf]; omega
                · skip
                  obtain rfl : S1 = S := by rw [hS1, if_pos hi0]
                  have hi1 : i ≤ 0 := by omega
                  have hSl1 : S1.length ≤ 400 := by omega
                  have e2 : (a != b) = true := by simpa using hne
                  have hr : rtxt (a, b) = txt a ++ [58] ++ txt b := by unfold rtxt; rw [if_neg hne]
                  have hjn := HJN.out
                  rw [hr] at hjn
                  have hap1 : str S1 ++ str (txt a) = str (S1 ++ txt a) := str_append _ _
                  have hap2 : str (S1 ++ txt a) ++ ({ data := #[58] } : ByteArray) = str (S1 ++ txt a ++ [58]) := str_append _ [58]
                  have hap3 : str (S1 ++ txt a ++ [58]) ++ str (txt b) = str (S1 ++ txt a ++ [58] ++ txt b) := str_append _ _
                  rw [show S1 ++ (txt a ++ [58] ++ txt b) = S1 ++ txt a ++ [58] ++ txt b by simp] at hjn
                  have hjl : (Lib.join ((l.take (i + 1)).map rtxt) [44]).length ≤ 22 * (i + 1) := by rw [HJN.out, List.length_append]; omega
                  rw [hjn] at hjl
                  have hUl : (S1 ++ txt a).length ≤ 420 := by rw [List.length_append]; omega
                  have hVl : (S1 ++ txt a ++ [58]).length ≤ 440 := by rw [List.length_append, List.length_singleton]; omega
                  have hTl : (txt a).length ≤ 10 := hla
                  have hTb : (txt b).length ≤ 10 := hlb
                  generalize S1 ++ txt a ++ [58] ++ txt b = Z at *
                  generalize S1 ++ txt a ++ [58] = V at *
                  generalize S1 ++ txt a = U at *
                  have HJ2 := hid hjn
                  have HJL := hid hjl
                  clear hjn hjl hr hne hi0 hS1 hS1l HJ HJN
                  generalize txt a = TA at *
                  generalize txt b = TB at *
                  have tok0 : Tk 0 := ⟨⟩
                  go_wp2_with (first
                    | (go_at_call 29; have t_ : Tk 0 := ‹Tk 0›; refine (hta _).mono ?_; rintro e w2 ⟨rfl, c2⟩; have b2 := hid (below_then HB.out c2); have hc0 := keep_below c2 rfl hx1; have hc1 := keep_below c2 rfl hx2; clear c2; clear t_; clear tok0; have tok1 : Tk 1 := ⟨⟩))
                  go_quiet (fail)
                  go_step
                  go_step
                  have hcd := keep_below (below_dn (Below.refl w2.heap.size w2) nq) rfl hc1
                  go_wp2_with (first
                    | (go_at_call 29; have t_ : Tk 1 := ‹Tk 1›; refine (htb _).mono ?_; rintro e w3 ⟨rfl, c3⟩; have b3 := hid (below_then (below_dn b2.out _) c3); clear c3; clear t_; clear tok1; have tok2 : Tk 2 := ⟨⟩))
                  go_roundw
                  case rel => exact ⟨i + 1, Z, by omega, by go_num, HJ2.out.symm, HJL.out, rfl, b3.out⟩
                  case measure => simp [intOf]; omega
              · by_cases hne : a = b
                · skip
                  have hS2 : S1 = S ++ [44] := by rw [hS1, if_neg hi0]
                  rw [← hS2] at hxs
                  have hi1 : 1 ≤ i := by omega
                  rw [if_neg hi0] at hS1l
                  have hSl1 : S1.length ≤ 400 := by omega
                  have e2 : (a != b) = false := by simpa using hne
                  have hr : rtxt (a, b) = txt a := by unfold rtxt; rw [if_pos hne]
                  have hjn := HJN.out
                  rw [hr] at hjn
                  have hap1 : str S1 ++ str (txt a) = str (S1 ++ txt a) := str_append _ _
                  have hjl : (Lib.join ((l.take (i + 1)).map rtxt) [44]).length ≤ 22 * (i + 1) := by rw [HJN.out, List.length_append]; omega
                  rw [hjn] at hjl
                  have hUl : (S1 ++ txt a).length ≤ 420 := by rw [List.length_append]; omega
                  have hTl : (txt a).length ≤ 10 := hla
                  generalize S1 ++ txt a = U at *
                  have HJ2 := hid hjn
                  have HJL := hid hjl
                  clear hjn hjl hr hne hi0 hS1 hS1l HJ HJN hS2
                  generalize txt a = TA at *
                  generalize txt b = TB at *
                  have tok0 : Tk 0 := ⟨⟩
                  go_wp2_with (first
                    | (go_at_call 29; have t_ : Tk 0 := ‹Tk 0›; refine (hta _).mono ?_; rintro e w2 ⟨rfl, c2⟩; have b2 := hid (below_then HB.out c2); have hc0 := keep_below c2 rfl hx1; have hc1 := keep_below c2 rfl hx2; clear c2; clear t_; clear tok0; have tok1 : Tk 1 := ⟨⟩))
                  go_quiet (fail)
                  go_step
                  go_step
                  go_wp2_with fail
                  go_roundw
                  case rel => exact ⟨i + 1, U, by omega, by go_num, HJ2.out.symm, HJL.out, rfl, below_dn b2.out _⟩
                  case measure => simp [intOf]; omega
                · skip
                  have hS2 : S1 = S ++ [44] := by rw [hS1, if_neg hi0]
                  rw [← hS2] at hxs
                  have hi1 : 1 ≤ i := by omega
                  rw [if_neg hi0] at hS1l
                  have hSl1 : S1.length ≤ 400 := by omega
                  have e2 : (a != b) = true := by simpa using hne
                  have hr : rtxt (a, b) = txt a ++ [58] ++ txt b := by unfold rtxt; rw [if_neg hne]
                  have hjn := HJN.out
                  rw [hr] at hjn
                  have hap1 : str S1 ++ str (txt a) = str (S1 ++ txt a) := str_append _ _
                  have hap2 : str (S1 ++ txt a) ++ ({ data := #[58] } : ByteArray) = str (S1 ++ txt a ++ [58]) := str_append _ [58]
                  have hap3 : str (S1 ++ txt a ++ [58]) ++ str (txt b) = str (S1 ++ txt a ++ [58] ++ txt b) := str_append _ _
                  rw [show S1 ++ (txt a ++ [58] ++ txt b) = S1 ++ txt a ++ [58] ++ txt b by simp] at hjn
                  have hjl : (Lib.join ((l.take (i + 1)).map rtxt) [44]).length ≤ 22 * (i + 1) := by rw [HJN.out, List.length_append]; omega
                  rw [hjn] at hjl
                  have hUl : (S1 ++ txt a).length ≤ 420 := by rw [List.length_append]; omega
                  have hVl : (S1 ++ txt a ++ [58]).length ≤ 440 := by rw [List.length_append, List.length_singleton]; omega
                  have hTl : (txt a).length ≤ 10 := hla
                  have hTb : (txt b).length ≤ 10 := hlb
                  generalize S1 ++ txt a ++ [58] ++ txt b = Z at *
                  generalize S1 ++ txt a ++ [58] = V at *
                  generalize S1 ++ txt a = U at *
                  have HJ2 := hid hjn
                  have HJL := hid hjl
                  clear hjn hjl hr hne hi0 hS1 hS1l HJ HJN hS2
                  generalize txt a = TA at *
                  generalize txt b = TB at *
                  have tok0 : Tk 0 := ⟨⟩
                  go_wp2_with (first
                    | (go_at_call 29; have t_ : Tk 0 := ‹Tk 0›; refine (hta _).mono ?_; rintro e w2 ⟨rfl, c2⟩; have b2 := hid (below_then HB.out c2); have hc0 := keep_below c2 rfl hx1; have hc1 := keep_below c2 rfl hx2; clear c2; clear t_; clear tok0; have tok1 : Tk 1 := ⟨⟩))
                  go_quiet (fail)
                  go_step
                  go_step
                  have hcd := keep_below (below_dn (Below.refl w2.heap.size w2) nq) rfl hc1
                  go_wp2_with (first
                    | (go_at_call 29; have t_ : Tk 1 := ‹Tk 1›; refine (htb _).mono ?_; rintro e w3 ⟨rfl, c3⟩; have b3 := hid (below_then (below_dn b2.out _) c3); clear c3; clear t_; clear tok1; have tok2 : Tk 2 := ⟨⟩))
                  go_roundw
                  case rel => exact ⟨i + 1, Z, by omega, by go_num, HJ2.out.symm, HJL.out, rfl, b3.out⟩
                  case measure => simp [intOf]; omega
            · obtain rfl : i = l.length := by omega
              rw [List.take_length] at hS
              have HS2 := hid (hS.trans HE.out.1.symm)
              clear hS HJ hbel hil
              go_wp2_with fail
              exact bodyPost_ret (v := .tuple #[.string (str S), .int .i64 0]) (by simp [results, Tryd.results17, go_sem]; first | done | rfl) rfl ⟨by rw [HS2.out, HE.out.2], HB.out⟩

set_option maxHeartbeats 1000000 in
/-- Two sets that are the same. -/
theorem same_same (A A2 : Option Addr) (nn cc n2 c2 : Nat) (l : List Rg) (w : World) (hs : SrcR w A l) (hs2 : SrcR w A2 l) (hn : nn = l.length) (hn2 : n2 = l.length) (hl : l.length ≤ 4611686018427387904) :
    Calls Tryd.prog 15 #[.slice A nn cc, .slice A2 n2 c2] w fun e w' => e = .returned (.bool true) ∧ Below w.heap.size w w' := by
  subst hn hn2
  have HS := hid hs
  have HS2 := hid hs2
  clear hs hs2
  go_enter Tryd.func15, Tryd.ntmps15
  go_wp2_with fail
  go_loopw [5] (fun v5 wr => ∃ i q : Nat, i ≤ l.length ∧ v5 = .int .i64 i ∧ wr = w.drewN q) (fun v5 _ => l.length - (intOf v5).toNat)
  case atStart => exact ⟨0, 0, Nat.zero_le _, rfl, rfl⟩
  case round =>
    obtain ⟨i, q, hi, rfl, rfl⟩ := hrel
    by_cases hil : i < l.length
    · obtain ⟨⟨a, b⟩, hab⟩ : ∃ r, l[i]? = some r := ⟨_, List.getElem?_eq_getElem hil⟩
      have hne : l ≠ [] := fun h => by rw [h] at hil; simp at hil
      obtain ⟨bk, of, rfl⟩ := srcR_some HS.out hne
      obtain ⟨bk2, of2, rfl⟩ := srcR_some HS2.out hne
      obtain ⟨hx1, hx2⟩ := HS.out.at_ hab
      obtain ⟨hx3, hx4⟩ := HS2.out.at_ hab
      have i0 : (0 : Int) ≤ (i : Int) := by omega
      have i1 : (i : Int) < (l.length : Int) := by omega
      clear hab hne
      go_wp2_with fail
      go_quiet (fail)
      go_step
      go_step
      go_wp2_with fail
      go_roundw
      case rel => exact ⟨i + 1, _, by omega, by go_num, rfl⟩
      case measure => simp [intOf]; omega
    · go_wp2_with fail
      go_ret
      exact ⟨rfl, below_dn (Below.refl _ _) q⟩

end Go.Proofs.YtifjikpinmgfaaaDoor
