/-
  Whether two commands are the same; who somebody says to be.
-/
import Derived.Test.YtdbggicpcbecdaaGreatDoorSmE
import Derived.Test.YtdbggicpcbecdaaGreatDoorDecode
namespace Go.Proofs.YtdbggicpcbecdaaGreatDoor
open Go.RowKit Own Sm
set_option linter.unusedVariables false
set_option linter.unusedSimpArgs false
set_option maxRecDepth 100000
attribute [local go_sem] str_toList

/-- A command as a value. -/
def cmdV (c : Cmd) (A : Option Addr) (cc : Nat) : Value := .agg #[.string (str c.1), .string (str c.2.1), .slice A c.2.2.1.length cc, .int .i64 c.2.2.2]
theorem SBuf.src {B : Nat} {w : World} {A : Option Addr} {n cc : Nat} {l : List Bt} (h : SBuf B w (.slice A n cc) l) : SrcS w A l := by
  obtain ⟨A2, c2, he, -, h1, h2⟩ := h.full
  simp only [Value.slice.injEq] at he
  obtain ⟨rfl, rfl, rfl⟩ := he
  refine ⟨fun ha => by rw [h1 ha]; rfl, fun p hp j u hu => ?_⟩
  obtain ⟨g, rfl, -, hc⟩ := h2 p hp
  rw [Addr.add_lit, Nat.zero_add]
  rw [List.getElem?_map] at hu
  cases hx : l[j]? with
  | none => rw [hx] at hu; cases hu
  | some x =>
    rw [hx] at hu
    rw [hc j x hx]; exact hu
theorem SrcS.below {w w' : World} {A : Option Addr} {l : List Bt} (h : SrcS w A l) (hb : Below w.heap.size w w') : SrcS w' A l := Src.below h hb

set_option maxHeartbeats 4000000 in
theorem same_same (c : Cmd) (A1 A2 : Option Addr) (c1 c2 : Nat) (w : World) (h1 : SrcS w A1 c.2.2.1) (h2 : SrcS w A2 c.2.2.1) (hl : c.2.2.1.length ≤ 1000000) :
    Calls Tryz.prog 10 #[cmdV c A1 c1, cmdV c A2 c2] w fun e w' => e = .returned (.bool true) ∧ Below w.heap.size w w' := by
  obtain ⟨W, p, a, n⟩ := c
  dsimp only at h1 h2 hl
  dsimp only [cmdV]
  obtain ⟨w1, hw1⟩ : ∃ w1, w1 = w.alloc (.cells #[.string (str W), .string (str p), .slice A1 a.length c1, .int .i64 n] 25) := ⟨_, rfl⟩
  obtain ⟨w2, hw2⟩ : ∃ w2, w2 = w1.alloc (.cells #[.string (str W), .string (str p), .slice A2 a.length c2, .int .i64 n] 25) := ⟨_, rfl⟩
  have k1 : CmdIs w1 w.heap.size W p (.slice A1 a.length c1) n := by rw [hw1]; exact CmdIs.new w W p _ n
  have k2 : CmdIs w2 w.heap.size W p (.slice A1 a.length c1) n := by rw [hw2]; exact k1.alloc _
  have hs1 : w1.heap.size = w.heap.size + 1 := by rw [hw1]; simp
  have m2 : CmdIs w2 (w.heap.size + 1) W p (.slice A2 a.length c2) n := by rw [hw2, ← hs1]; exact CmdIs.new w1 W p _ n
  have b2 : Below w.heap.size w w2 := by
    rw [hw2, hw1]
    exact ((Below.refl _ _).alloc (Nat.le_refl _) _).alloc (by simp) _
  have S1 := hid (h1.below b2)
  have S2 := hid (h2.below b2)
  have x0 := k2.c0
  have x1 := k2.c1
  have x2 := k2.c2
  have x3 := k2.c3
  have y0 := m2.c0
  have y1 := m2.c1
  have y2 := m2.c2
  have y3 := m2.c3
  have B2 := hid b2
  have HW : Hid (w2 = (w.alloc (.cells #[.string (str W), .string (str p), .slice A1 a.length c1, .int .i64 n] 25)).alloc (.cells #[.string (str W), .string (str p), .slice A2 a.length c2, .int .i64 n] 25)) := hid (by rw [hw2, hw1])
  rw [hw2, hw1] at x0 x1 x2 x3 y0 y1 y2 y3
  clear h1 h2 k1 k2 m2 b2 hw1 hw2 hs1
  go_enter Tryz.func10, Tryz.ntmps10
  go_wp2_with fail
  rw [← HW.out] at x0 x1 x2 x3 y0 y1 y2 y3
  rw [← HW.out]
  go_loopw [5] (fun v5 wr => ∃ i q : Nat, i ≤ a.length ∧ v5 = .int .i64 i ∧ wr = w2.drewN q) (fun v5 _ => a.length - (intOf v5).toNat)
  case atStart => exact ⟨0, 0, Nat.zero_le _, rfl, rfl⟩
  case round =>
    obtain ⟨i, q, hi, rfl, rfl⟩ := hrel
    by_cases hil : i < a.length
    · obtain ⟨x, hx⟩ : ∃ x, a[i]? = some x := ⟨_, List.getElem?_eq_getElem hil⟩
      obtain ⟨q1, rfl⟩ : ∃ p, A1 = some p := by
        cases A1 with
        | none => have := S1.out.1 rfl; rw [List.map_eq_nil_iff] at this; rw [this] at hil; simp at hil
        | some p => exact ⟨p, rfl⟩
      obtain ⟨q2, rfl⟩ : ∃ p, A2 = some p := by
        cases A2 with
        | none => have := S2.out.1 rfl; rw [List.map_eq_nil_iff] at this; rw [this] at hil; simp at hil
        | some p => exact ⟨p, rfl⟩
      have hx1 := srcS_at S1.out hx
      have hx2 := srcS_at S2.out hx
      have i0 : (0 : Int) ≤ (i : Int) := by omega
      have i1 : (i : Int) < (a.length : Int) := by omega
      clear hx
      go_wp2_with fail
      go_quiet (fail)
      go_step
      go_step
      go_wp2_with fail
      go_roundw
      case rel => exact ⟨i + 1, _, by omega, by go_num, rfl⟩
      case measure => (simp [intOf]) <;> omega
    · go_wp2_with fail
      go_ret
      exact ⟨rfl, below_dn2 B2.out q⟩

/-- Who somebody says to be. -/
noncomputable def plainS (s : Bt) : Bt × Bt × Bool := if (Enc.decV s).2 ≠ 0 then ([], [], false) else match plainR (Enc.decV s).1 with
  | some (u, p) => (u, p, true)
  | none => ([], [], false)
theorem plainS_bad {s : Bt} (h : (Enc.decV s).2 ≠ 0) : plainS s = ([], [], false) := if_pos h
theorem plainS_ok {s b : Bt} (h : Enc.decV s = (b, 0)) : plainS s = match plainR b with
  | some (u, p) => (u, p, true)
  | none => ([], [], false) := by unfold plainS; rw [h]; rfl

set_option maxHeartbeats 4000000 in
theorem smplain_any (s : List UInt8) (w : World) (hG : GoodA w) (hs : s.length ≤ 1000000000) (hb : (Enc.decV s).1.length ≤ 2147483648) :
    Calls Tryz.prog 12 #[.string (str s)] w fun e w' => e = .returned (.tuple #[.string (str (plainS s).1), .string (str (plainS s).2.1), .bool (plainS s).2.2]) ∧ Below w.heap.size w w' := by
  have hdc := fun V => decode_any s V (by omega)
  obtain ⟨b, E, hbE⟩ : ∃ b E, Enc.decV s = (b, E) := ⟨_, _, rfl⟩
  rw [hbE] at hdc hb
  dsimp only at hdc hb
  have hsp := fun V g => split_any 0 b V g hb
  by_cases hE : E = 0
  · subst hE
    rw [plainS_ok hbE]
    have hpr : ∀ L, Spl.splitL 0 b = L → plainR b = match L with
      | [_, u, p] => some (u, p)
      | _ => none := by rintro L rfl; rfl
    obtain ⟨L, hL⟩ : ∃ L, L = Spl.splitL 0 b := ⟨_, rfl⟩
    have hpr := hpr L hL.symm
    rw [← hL] at hsp
    clear hL hbE
    by_cases h3 : L.length = 3
    · obtain ⟨x0, u, p, rfl⟩ : ∃ x0 u p, L = [x0, u, p] := by
        match L, h3 with
        | [x0, u, p], _ => exact ⟨x0, u, p, rfl⟩
      have hR : plainR b = some (u, p) := hpr
      rw [hR]
      dsimp only
      have hsp3 : ∀ V, GoodA V → Calls Tryz.prog 21 #[.string (str b), .string { data := #[0] }] V fun e w' => e = .returned (.slice (some ⟨V.heap.size, 0, none⟩) 3 3) ∧ w'.cell? ⟨V.heap.size, 1, none⟩ = some (.string (str u)) ∧ w'.cell? ⟨V.heap.size, 2, none⟩ = some (.string (str p)) ∧ Below V.heap.size V w' := by
        intro V g
        refine (hsp V g).mono ?_
        rintro e w' ⟨rfl, h1, h2⟩
        exact ⟨rfl, h1.2 _ rfl 1 _ rfl, h1.2 _ rfl 2 _ rfl, h2⟩
      clear hsp hpr hR h3
      go_enter Tryz.func12, Tryz.ntmps12
      go_wp2_with (first
        | (go_at_call 20; refine (hdc _).mono ?_; rintro e w1 ⟨v1, rfl, hb1, c1⟩; obtain ⟨A1, k1, rfl, -, -⟩ := hb1.full; have cv := hb1.conv; have B1 := hid c1; clear c1 hb1)
        | (go_at_call 21; refine (hsp3 _ (hG.below B1.out)).mono ?_; rintro e w2 ⟨rfl, x1, x2, c2⟩; have B2 := hid (below_then B1.out c2); clear c2))
      go_quiet (fail)
      go_step
      go_step
      go_wp2_with fail
      exact bodyPost_ret (v := .tuple #[.string (str u), .string (str p), .bool true]) (by simp [results, Tryz.results12, go_sem]) rfl ⟨rfl, below_dn2 B2.out _⟩
    · have hR : plainR b = none := by
        rw [hpr]
        match L, h3 with
        | [], _ => rfl
        | [_], _ => rfl
        | [_, _], _ => rfl
        | _ :: _ :: _ :: _ :: _, _ => rfl
      rw [hR]
      dsimp only
      have e3 : ((L.length : Int) != 3) = true := by rw [bne_iff_ne]; omega
      clear hR hpr h3
      go_enter Tryz.func12, Tryz.ntmps12
      go_wp2_with (first
        | (go_at_call 20; refine (hdc _).mono ?_; rintro e w1 ⟨v1, rfl, hb1, c1⟩; obtain ⟨A1, k1, rfl, -, -⟩ := hb1.full; have cv := hb1.conv; have B1 := hid c1; clear c1 hb1)
        | (go_at_call 21; refine (hsp _ (hG.below B1.out)).mono ?_; rintro e w2 ⟨rfl, -, c2⟩; have B2 := hid (below_then B1.out c2); clear c2))
      exact bodyPost_ret (v := .tuple #[.string (str []), .string (str []), .bool false]) (by simp [results, Tryz.results12, go_sem]; first | done | rfl) rfl ⟨rfl, B2.out⟩
  · rw [plainS_bad (by rw [hbE]; exact hE)]
    have e3 : (E != 0) = true := by simpa using hE
    clear hbE hE
    go_enter Tryz.func12, Tryz.ntmps12
    go_wp2_with (first
      | (go_at_call 20; refine (hdc _).mono ?_; rintro e w1 ⟨v1, rfl, hb1, c1⟩; obtain ⟨A1, k1, rfl, -, -⟩ := hb1.full; have cv := hb1.conv; have B1 := hid c1; clear c1 hb1)
      | (go_at_call 21; refine (hsp _ (hG.below B1.out)).mono ?_; rintro e w2 ⟨rfl, -, c2⟩; have B2 := hid (below_then B1.out c2); clear c2))
    exact bodyPost_ret (v := .tuple #[.string (str []), .string (str []), .bool false]) (by simp [results, Tryz.results12, go_sem]; first | done | rfl) rfl ⟨rfl, B2.out⟩

end Go.Proofs.YtdbggicpcbecdaaGreatDoor
