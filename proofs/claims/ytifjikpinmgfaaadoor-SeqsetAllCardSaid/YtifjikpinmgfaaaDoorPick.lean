/-
  Pick: the program's and the reference's; two rows of ints that are the same.
-/
import Derived.Test.YtifjikpinmgfaaaDoorPHas2
import Derived.Test.YtifjikpinmgfaaaDoorIBuf
namespace Go.Proofs.YtifjikpinmgfaaaDoor
open Go.RowKit Own Dec Sq
set_option linter.unusedVariables false
set_option linter.unusedSimpArgs false
set_option maxRecDepth 100000

namespace Sq
theorem great_snoc (l : List Int) (x : Int) : great (l ++ [x]) = max (great l) x := by simp [great]
theorem take_snoc {α : Type} {l : List α} {i : Nat} {x : α} (h : l[i]? = some x) : l.take (i + 1) = l.take i ++ [x] := by
  obtain ⟨h1, h2⟩ := List.getElem?_eq_some_iff.1 h
  rw [List.take_succ_eq_append_getElem h1, h2]
end Sq

set_option maxHeartbeats 2000000 in
theorem pick_any (A A2 : Option Addr) (nn cc n2 c2 : Nat) (l : List Rg) (all : List Int) (w : World) (hs : SrcR w A l) (hs2 : Src w A2 (iv all)) (hn : nn = l.length) (hn2 : n2 = all.length) (hl : l.length ≤ 4611686018427387904) (hl2 : all.length ≤ 17592186044415) :
    Calls Tryd.prog 9 #[.slice A nn cc, .slice A2 n2 c2] w fun e w' => ∃ v, e = .returned v ∧ IBuf w.heap.size w' v (pick l all) ∧ Below w.heap.size w w' := by
  subst hn hn2
  have HS := hid hs
  have HS2 := hid hs2
  clear hs hs2
  go_enter Tryd.func9, Tryd.ntmps9
  go_wp2_with fail
  go_loop [5, 13] (fun v5 v13 => ∃ i : Nat, i ≤ all.length ∧ v13 = .int .i64 i ∧ v5 = .int .i64 (great (all.take i))) (fun _ v13 => all.length - (intOf v13).toNat)
  case atStart => exact ⟨0, Nat.zero_le _, rfl, rfl⟩
  case round =>
    obtain ⟨i, hi, rfl, rfl⟩ := hrel
    by_cases hil : i < all.length
    · obtain ⟨x, hx⟩ : ∃ x, all[i]? = some x := ⟨_, List.getElem?_eq_getElem hil⟩
      obtain ⟨p, rfl⟩ := isrc_some HS2.out (fun h => by rw [h] at hil; simp at hil)
      have hcell := HS2.out.2 p rfl i _ (iv_at hx)
      have hg := great_snoc (all.take i) x
      rw [← take_snoc hx] at hg
      have HG := hid hg
      clear hg hx
      generalize great (all.take i) = G at *
      go_wp2_with fail
      go_round
      case rel => exact ⟨i + 1, by omega, by go_num, by rw [HG.out]⟩
      case measure => simp [intOf]; omega
    · obtain rfl : i = all.length := by omega
      rw [List.take_length]
      clear hil hi
      have hpk : pick l all = all.filter fun n => has l n (great all) := rfl
      have HPK := hid hpk
      clear hpk
      generalize great all = G at *
      go_wp2_with fail
      go_loopw [8, 23] (fun v8 v23 wr => ∃ i : Nat, i ≤ all.length ∧ v23 = .int .i64 i ∧ IBuf w.heap.size wr v8 ((all.take i).filter fun n => has l n G) ∧ Below w.heap.size w wr) (fun _ v23 _ => all.length - (intOf v23).toNat)
      case atStart => exact ⟨0, Nat.zero_le _, rfl, IBuf.nil (Nat.le_refl _), Below.refl _ _⟩
      case round =>
        obtain ⟨i, hi, rfl, hbuf, hbel⟩ := hrel
        have HBUF := hid hbuf
        have HBE := hid hbel
        by_cases hil : i < all.length
        · obtain ⟨x, hx⟩ : ∃ x, all[i]? = some x := ⟨_, List.getElem?_eq_getElem hil⟩
          obtain ⟨p, rfl⟩ := isrc_some HS2.out (fun h => by rw [h] at hil; simp at hil)
          have hcell := (HS2.out.below hbel).2 p rfl i _ (iv_at hx)
          have hh := fun W h => has_any A l.length cc l x G W h rfl hl
          have hsn : (all.take (i + 1)).filter (fun n => has l n G) = (all.take i).filter (fun n => has l n G) ++ (if has l x G = true then [x] else []) := by
            rw [take_snoc hx, List.filter_append]
            congr 1
            cases hq : has l x G <;> simp [hq]
          have hfl : ((all.take i).filter fun n => has l n G).length ≤ all.length := Nat.le_trans (List.length_filter_le _ _) (by simp; omega)
          have HSN := hid hsn
          clear hsn hx hbuf hbel
          cases hp : has l x G with
          | true =>
            rw [hp] at hh
            have hs3 := HSN.out
            rw [hp, if_pos rfl] at hs3
            have HSN2 := hid hs3
            clear hp hs3 HSN
            generalize (all.take i).filter (fun n => has l n G) = o at *
            go_wp2_with (first
              | (go_at_call 11; refine (hh _ (HS.out.below HBE.out)).mono ?_; rintro e w1 ⟨rfl, hb1⟩; have H1 := hid (HBUF.out.keep hb1); have B1 := hid (below_then HBE.out hb1); clear hb1)
              | (at_builtin; refine wpList_ibuf w.heap.size _ rfl _ _ rfl _ o [x] rfl (H1.out.alloc _) _ 1 1 rfl rfl (ilit_at _ [x] _ _ _ rfl rfl) (by simp; omega) ?_; intro v' w2 hr2 hb2))
            go_roundw
            case rel => exact ⟨i + 1, by omega, by go_num, by rw [HSN2.out]; exact hr2, (B1.out.alloc B1.out.size _).trans hb2⟩
            case measure => simp [intOf]; omega
          | false =>
            rw [hp] at hh
            have hs3 := HSN.out
            rw [hp, if_neg (by simp), List.append_nil] at hs3
            have HSN2 := hid hs3
            clear hp hs3 HSN
            go_wp2_with (go_at_call 11; refine (hh _ (HS.out.below HBE.out)).mono ?_; rintro e w1 ⟨rfl, hb1⟩; have H1 := hid (HBUF.out.keep hb1); have B1 := hid (below_then HBE.out hb1); clear hb1)
            go_roundw
            case rel => exact ⟨i + 1, by omega, by go_num, by rw [HSN2.out]; exact H1.out, B1.out⟩
            case measure => simp [intOf]; omega
        · obtain rfl : i = all.length := by omega
          have hb := HBUF.out
          rw [List.take_length, ← HPK.out] at hb
          have HB := hid hb
          clear hb hbuf hbel hil
          go_wp2_with fail
          go_ret
          exact ⟨_, rfl, HB.out, HBE.out⟩

set_option maxHeartbeats 2000000 in
theorem rpick_any (A A2 : Option Addr) (nn cc n2 c2 : Nat) (l : List Rg) (all : List Int) (w : World) (hs : SrcR w A l) (hs2 : Src w A2 (iv all)) (hn : nn = l.length) (hn2 : n2 = all.length) (hl : l.length ≤ 4611686018427387904) (hl2 : all.length ≤ 17592186044415) :
    Calls Tryd.prog 10 #[.slice A nn cc, .slice A2 n2 c2] w fun e w' => ∃ v, e = .returned v ∧ IBuf w.heap.size w' v (pick l all) ∧ Below w.heap.size w w' := by
  subst hn hn2
  have HS := hid hs
  have HS2 := hid hs2
  clear hs hs2
  go_enter Tryd.func10, Tryd.ntmps10
  go_wp2_with fail
  go_loop [5, 6] (fun v5 v6 => ∃ i : Nat, i ≤ all.length ∧ v6 = .int .i64 i ∧ v5 = .int .i64 (great (all.take i))) (fun _ v6 => all.length - (intOf v6).toNat)
  case atStart => exact ⟨0, Nat.zero_le _, rfl, rfl⟩
  case round =>
    obtain ⟨i, hi, rfl, rfl⟩ := hrel
    by_cases hil : i < all.length
    · obtain ⟨x, hx⟩ : ∃ x, all[i]? = some x := ⟨_, List.getElem?_eq_getElem hil⟩
      obtain ⟨p, rfl⟩ := isrc_some HS2.out (fun h => by rw [h] at hil; simp at hil)
      have hcell := HS2.out.2 p rfl i _ (iv_at hx)
      have hg := great_snoc (all.take i) x
      rw [← take_snoc hx] at hg
      have HG := hid hg
      clear hg hx
      generalize great (all.take i) = G at *
      go_wp2_with fail
      go_round
      case rel => exact ⟨i + 1, by omega, by go_num, by rw [HG.out]⟩
      case measure => simp [intOf]; omega
    · obtain rfl : i = all.length := by omega
      rw [List.take_length]
      clear hil hi
      have hpk : pick l all = all.filter fun n => has l n (great all) := rfl
      have HPK := hid hpk
      clear hpk
      generalize great all = G at *
      go_wp2_with fail
      go_loopw [7, 8] (fun v7 v8 wr => ∃ i : Nat, i ≤ all.length ∧ v8 = .int .i64 i ∧ IBuf w.heap.size wr v7 ((all.take i).filter fun n => has l n G) ∧ Below w.heap.size w wr) (fun _ v8 _ => all.length - (intOf v8).toNat)
      case atStart => exact ⟨0, Nat.zero_le _, rfl, IBuf.nil (Nat.le_refl _), Below.refl _ _⟩
      case round =>
        obtain ⟨i, hi, rfl, hbuf, hbel⟩ := hrel
        have HBUF := hid hbuf
        have HBE := hid hbel
        by_cases hil : i < all.length
        · obtain ⟨x, hx⟩ : ∃ x, all[i]? = some x := ⟨_, List.getElem?_eq_getElem hil⟩
          obtain ⟨p, rfl⟩ := isrc_some HS2.out (fun h => by rw [h] at hil; simp at hil)
          have hcell := (HS2.out.below hbel).2 p rfl i _ (iv_at hx)
          have hh := fun W h => rhas_any A l.length cc l x G W h rfl hl
          have hsn : (all.take (i + 1)).filter (fun n => has l n G) = (all.take i).filter (fun n => has l n G) ++ (if has l x G = true then [x] else []) := by
            rw [take_snoc hx, List.filter_append]
            congr 1
            cases hq : has l x G <;> simp [hq]
          have hfl : ((all.take i).filter fun n => has l n G).length ≤ all.length := Nat.le_trans (List.length_filter_le _ _) (by simp; omega)
          have HSN := hid hsn
          clear hsn hx hbuf hbel
          cases hp : has l x G with
          | true =>
            rw [hp] at hh
            have hs3 := HSN.out
            rw [hp, if_pos rfl] at hs3
            have HSN2 := hid hs3
            clear hp hs3 HSN
            generalize (all.take i).filter (fun n => has l n G) = o at *
            go_wp2_with (first
              | (go_at_call 12; refine (hh _ (HS.out.below HBE.out)).mono ?_; rintro e w1 ⟨rfl, rfl⟩)
              | (at_builtin; refine wpList_ibuf w.heap.size _ rfl _ _ rfl _ o [x] rfl (HBUF.out.alloc _) _ 1 1 rfl rfl (ilit_at _ [x] _ _ _ rfl rfl) (by simp; omega) ?_; intro v' w2 hr2 hb2))
            go_roundw
            case rel => exact ⟨i + 1, by omega, by go_num, by rw [HSN2.out]; exact hr2, (HBE.out.alloc HBE.out.size _).trans hb2⟩
            case measure => simp [intOf]; omega
          | false =>
            rw [hp] at hh
            have hs3 := HSN.out
            rw [hp, if_neg (by simp), List.append_nil] at hs3
            have HSN2 := hid hs3
            clear hp hs3 HSN
            go_wp2_with (go_at_call 12; refine (hh _ (HS.out.below HBE.out)).mono ?_; rintro e w1 ⟨rfl, rfl⟩)
            go_roundw
            case rel => exact ⟨i + 1, by omega, by go_num, by rw [HSN2.out]; exact HBUF.out, HBE.out⟩
            case measure => simp [intOf]; omega
        · obtain rfl : i = all.length := by omega
          have hb := HBUF.out
          rw [List.take_length, ← HPK.out] at hb
          have HB := hid hb
          clear hb hbuf hbel hil
          go_wp2_with fail
          go_ret
          exact ⟨_, rfl, HB.out, HBE.out⟩

/-- Two rows of the same ints. -/
theorem ints_same (A A2 : Option Addr) (nn cc n2 c2 : Nat) (l : List Int) (w : World) (hs : Src w A (iv l)) (hs2 : Src w A2 (iv l)) (hn : nn = l.length) (hn2 : n2 = l.length) (hl : l.length ≤ 4611686018427387904) :
    Calls Tryd.prog 8 #[.slice A nn cc, .slice A2 n2 c2] w fun e w' => e = .returned (.bool true) ∧ Below w.heap.size w w' := by
  subst hn hn2
  have HS := hid hs
  have HS2 := hid hs2
  clear hs hs2
  have e0 : ((l.length : Int) == (l.length : Int)) = true := by simp
  go_enter Tryd.func8, Tryd.ntmps8
  go_wp2_with fail
  go_loopw [5] (fun v5 wr => ∃ i q : Nat, i ≤ l.length ∧ v5 = .int .i64 i ∧ wr = w.drewN q) (fun v5 _ => l.length - (intOf v5).toNat)
  case atStart => exact ⟨0, 0, Nat.zero_le _, rfl, rfl⟩
  case round =>
    obtain ⟨i, q, hi, rfl, rfl⟩ := hrel
    by_cases hil : i < l.length
    · obtain ⟨x, hx⟩ : ∃ x, l[i]? = some x := ⟨_, List.getElem?_eq_getElem hil⟩
      have hne : l ≠ [] := fun h => by rw [h] at hil; simp at hil
      obtain ⟨p, rfl⟩ := isrc_some HS.out hne
      obtain ⟨p2, rfl⟩ := isrc_some HS2.out hne
      have hcell := HS.out.2 p rfl i _ (iv_at hx)
      have hcell2 := HS2.out.2 p2 rfl i _ (iv_at hx)
      have e1 : (x != x) = false := by simp
      have i0 : (0 : Int) ≤ (i : Int) := by omega
      have i1 : (i : Int) < (l.length : Int) := by omega
      clear hx hne
      go_wp2_with fail
      go_quiet (fail)
      go_step
      go_step
      go_wp2_with fail
      go_roundw
      case rel => exact ⟨i + 1, _, by omega, by go_num, rfl⟩
      case measure => simp [intOf]; omega
    · have e1 : decide ((i : Int) < l.length) = false := decide_eq_false (by omega)
      go_wp2_with fail
      go_ret
      exact ⟨rfl, below_dn (Below.refl _ _) q⟩

end Go.Proofs.YtifjikpinmgfaaaDoor
