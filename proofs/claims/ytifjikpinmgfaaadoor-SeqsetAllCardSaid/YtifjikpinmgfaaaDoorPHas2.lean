/-
  The program's Has.
-/
import Derived.Test.YtifjikpinmgfaaaDoorPHas
import Derived.Laws.EntriesVeiled
namespace Go.Proofs.YtifjikpinmgfaaaDoor
open Go.RowKit Own Dec Sq
set_option linter.unusedVariables false
set_option linter.unusedSimpArgs false
set_option maxRecDepth 100000

/-- The first place from i on; -1: none. -/
def firstFrom {α : Type} (p : α → Bool) : Nat → List α → Int
  | _, [] => -1
  | i, r :: t => if p r = true then (i : Int) else firstFrom p (i + 1) t
theorem firstFrom_cons {α : Type} (p : α → Bool) (i : Nat) (r : α) (t : List α) : firstFrom p i (r :: t) = if p r = true then (i : Int) else firstFrom p (i + 1) t := rfl
theorem firstFrom_any {α : Type} (p : α → Bool) : ∀ (l : List α) (i : Nat), decide (0 ≤ firstFrom p i l) = l.any p
  | [], i => rfl
  | r :: t, i => by
    rw [firstFrom_cons, List.any_cons]
    cases h : p r with
    | true => rw [if_pos rfl]; simp
    | false => rw [if_neg (by simp), firstFrom_any p t (i + 1)]; rfl

set_option maxHeartbeats 2000000 in
theorem indexR_any (A : Option Addr) (nn cc : Nat) (l : List Rg) (n g : Int) (bg bf bn : Nat) (w : World) (hs : SrcR w A l) (hn : nn = l.length) (hl : l.length ≤ 4611686018427387904) (hc : Cap w n g bg bf bn) :
    Calls Tryd.prog 30 #[.slice A nn cc, .func (.func 20) #[] #[.pointer (some ⟨bg, 0, none⟩), .pointer (some ⟨bf, 0, none⟩), .pointer (some ⟨bn, 0, none⟩)]] w fun e w' => e = .returned (.int .i64 (firstFrom (inR n g) 0 l)) ∧ Below w.heap.size w w' := by
  subst hn
  have HS := hid hs
  have HC := hid hc
  obtain ⟨V, hV⟩ : ∃ V, V = firstFrom (inR n g) 0 l := ⟨_, rfl⟩
  rw [← hV]
  have HV := hid hV
  clear hs hc hV
  go_enter Tryd.func30, Tryd.ntmps30
  go_wp2_with fail
  go_loopw [8] (fun v8 wr => ∃ i : Nat, i ≤ l.length ∧ v8 = .int .i64 i ∧ V = firstFrom (inR n g) i (l.drop i) ∧ Below w.heap.size w wr) (fun v8 _ => l.length - (intOf v8).toNat)
  case atStart => exact ⟨0, Nat.zero_le _, rfl, HV.out, Below.refl _ _⟩
  case round =>
    obtain ⟨i, hi, rfl, hv, hbel⟩ := hrel
    have HBE := hid hbel
    by_cases hil : i < l.length
    · obtain ⟨⟨a, b⟩, hab⟩ : ∃ r, l[i]? = some r := ⟨_, List.getElem?_eq_getElem hil⟩
      obtain ⟨bk, of, rfl⟩ := srcR_some HS.out (fun h => by rw [h] at hil; simp at hil)
      obtain ⟨hx1, hx2⟩ := (HS.out.below hbel).at_ hab
      have hdr : l.drop i = (a, b) :: l.drop (i + 1) := by
        obtain ⟨h1, h2⟩ := List.getElem?_eq_some_iff.1 hab
        rw [List.drop_eq_getElem_cons hil, h2]
      rw [hdr, firstFrom_cons] at hv
      have hin := inner_any (a, b) n g bg bf bn wr (HC.out.below hbel)
      cases hp : inR n g (a, b) with
      | true =>
        rw [hp] at hin hv
        rw [if_pos rfl] at hv
        have HV2 := hid hv
        clear hdr hab hbel hp hv
        dsimp only at hin
        go_wp2_with ((go_at_call 20; refine hin.mono ?_; rintro e w1 ⟨rfl, hb1⟩))
        go_ret
        exact ⟨by rw [HV2.out]; rfl, below_then HBE.out hb1⟩
      | false =>
        rw [hp] at hin hv
        rw [if_neg (by simp)] at hv
        have HV2 := hid hv
        clear hdr hab hbel hp hv
        dsimp only at hin
        go_wp2_with ((go_at_call 20; refine hin.mono ?_; rintro e w1 ⟨rfl, hb1⟩))
        go_roundw
        case rel => exact ⟨i + 1, by omega, by go_num, HV2.out, below_then HBE.out hb1⟩
        case measure => simp [intOf]; omega
    · obtain rfl : i = l.length := by omega
      rw [List.drop_length] at hv
      have hv2 : V = -1 := hv
      have HV2 := hid hv2
      clear hv hv2 hbel
      go_wp2_with fail
      go_ret
      exact ⟨by rw [HV2.out]; rfl, HBE.out⟩

set_option maxHeartbeats 2000000 in
theorem has_any (A : Option Addr) (nn cc : Nat) (l : List Rg) (n g : Int) (w : World) (hs : SrcR w A l) (hn : nn = l.length) (hl : l.length ≤ 4611686018427387904) :
    Calls Tryd.prog 11 #[.slice A nn cc, .int .i64 n, .int .i64 g] w fun e w' => e = .returned (.bool (has l n g)) ∧ Below w.heap.size w w' := by
  subst hn
  have HS := hid hs
  clear hs
  by_cases h1 : 1 ≤ n
  · have hr : has l n g = l.any (inR n g) := by unfold has; rw [decide_eq_true h1]; rfl
    rw [hr, ← firstFrom_any (inR n g) l 0]
    clear hr
    have hcon : ∀ (W : World) (bg bf bn : Nat), SrcR W A l → Cap W n g bg bf bn → Calls Tryd.prog 19 #[.slice A l.length cc, .func (.func 20) #[] #[.pointer (some ⟨bg, 0, none⟩), .pointer (some ⟨bf, 0, none⟩), .pointer (some ⟨bn, 0, none⟩)]] W fun e w' => e = .returned (.bool (decide (0 ≤ firstFrom (inR n g) 0 l))) ∧ Below W.heap.size W w' := by
      intro W bg bf bn h2 h3
      have hin := indexR_any A l.length cc l n g bg bf bn W h2 rfl hl h3
      generalize firstFrom (inR n g) 0 l = V at *
      clear h2 h3
      go_enter Tryd.func19, Tryd.ntmps19
      go_wp2_with ((go_at_call 30; refine hin.mono ?_; rintro e w1 ⟨rfl, hb1⟩))
      go_ret
      exact ⟨rfl, hb1⟩
    generalize firstFrom (inR n g) 0 l = V at *
    go_enter Tryd.func11, Tryd.ntmps11
    go_wp2_with ((go_at_call 19; refine (hcon _ _ _ _ (HS.out.below ?_) ?_).mono ?_; exact (((Below.refl _ _).alloc (Nat.le_refl _) _).alloc (by simp) _).alloc (by simp; omega) _; exact ⟨by go_simp, by go_simp, by go_simp⟩; rintro e w1 ⟨rfl, hb1⟩))
    go_ret
    exact ⟨rfl, ((((Below.refl _ _).alloc (Nat.le_refl _) _).alloc (by simp) _).alloc (by simp; omega) _).trans (hb1.mono (by simp; omega))⟩
  · have hr : has l n g = false := by unfold has; rw [decide_eq_false h1]; rfl
    rw [hr]
    clear hr
    go_enter Tryd.func11, Tryd.ntmps11
    go_wp2_with fail
    go_ret
    exact ⟨rfl, (((Below.refl _ _).alloc (Nat.le_refl _) _).alloc (by simp) _).alloc (by simp; omega) _⟩

end Go.Proofs.YtifjikpinmgfaaaDoor
