/-
  Smtpline's small things: where a text stops, what is seen, cuts.
-/
import Derived.Test.YtdbggicpcbecdaaGreatDoorSm
import Derived.Test.YtdbggicpcbecdaaGreatDoorSBuf
import Derived.Test.YtdbggicpcbecdaaGreatDoorCuts
import Derived.Test.YtdbggicpcbecdaaGreatDoorIdx
import Derived.Test.YtdbggicpcbecdaaGreatDoorCase
import Derived.Test.YtdbggicpcbecdaaGreatDoorNumb
namespace Go.Proofs.YtdbggicpcbecdaaGreatDoor
open Go.RowKit Own Sm
set_option linter.unusedVariables false
set_option linter.unusedSimpArgs false
set_option maxRecDepth 100000

theorem GoodC.a {w : World} (h : GoodC w) : GoodA w := ⟨h.max⟩

/-! Where a text stops being of a kind. -/
structure Kind (R : Nat → Bool) (q : UInt8 → Bool) : Prop where
  low : ∀ c : UInt8, c.toNat < 128 → R c.toNat = !q c
  high : ∀ n, 128 ≤ n → R n = true
  rest : ∀ c : UInt8, 128 ≤ c.toNat → q c = false
theorem idx_kind {R : Nat → Bool} {q : UInt8 → Bool} (K : Kind R q) (l : List UInt8) : ∀ f pos : Nat, l.length ≤ pos + f → Lib.idxFuncFrom R true (str l) f pos = if ((l.drop pos).takeWhile q).length < (l.drop pos).length then ((pos + ((l.drop pos).takeWhile q).length : Nat) : Int) else -1
  | f, pos, h => by
    by_cases hp : pos < l.length
    · cases f with
      | zero => omega
      | succ f =>
        have hps : pos < (str l).size := by rw [str_size]; exact hp
        have hgc : (str l)[pos]'hps = l[pos] := rfl
        have hdr : l.drop pos = l[pos] :: l.drop (pos + 1) := List.drop_eq_getElem_cons hp
        unfold Lib.idxFuncFrom
        rw [if_pos hps, hdr]
        by_cases h8 : (l[pos]).toNat < 128
        · rw [decode_ascii (str l) pos hps (by rw [hgc]; exact h8), hgc, K.low _ h8]
          cases hq : q l[pos] with
          | false => rw [List.takeWhile_cons_of_neg (by simp [hq])]; simp
          | true =>
            rw [List.takeWhile_cons_of_pos hq, if_neg (by simp), idx_kind K l f (pos + 1) (by omega)]
            simp only [List.length_cons]
            by_cases hl : ((l.drop (pos + 1)).takeWhile q).length < (l.drop (pos + 1)).length
            · rw [if_pos hl, if_pos (by omega)]; omega
            · rw [if_neg hl, if_neg (by omega)]
        · have hd := decode_high (str l) pos hps (by rw [hgc]; omega)
          rw [K.high _ hd.1, List.takeWhile_cons_of_neg (by simp [K.rest _ (Nat.le_of_not_lt h8)])]
          simp
    · rw [Lib.idxFuncFrom_end _ _ _ _ _ (by rw [str_size]; exact hp), List.drop_eq_nil_of_le (by omega)]
      rfl
theorem idx_of {R : Nat → Bool} {q : UInt8 → Bool} (K : Kind R q) (l : List UInt8) : Lib.idxFunc R true (str l) = if (l.takeWhile q).length < l.length then ((l.takeWhile q).length : Int) else -1 := by
  unfold Lib.idxFunc
  rw [idx_kind K l (str l).size 0 (by rw [str_size]; omega), List.drop_zero, Nat.zero_add]

def hidR (r : Nat) : Bool := decide (r ≤ 32) || decide (126 < r)
theorem hid_kind : Kind hidR vis where
  low c h := by unfold hidR vis; by_cases h1 : c.toNat ≤ 32 <;> by_cases h2 : 126 < c.toNat <;> simp [h1, h2] <;> omega
  high n h := by unfold hidR; simp; omega
  rest c h := by unfold vis; simp; omega
def othR (r : Nat) : Bool := !decide (97 ≤ r ∧ r ≤ 122 ∨ 65 ≤ r ∧ r ≤ 90)
theorem oth_kind : Kind othR isAl where
  low c h := by unfold othR isAl; rfl
  high n h := by unfold othR; simp; omega
  rest c h := by unfold isAl; simp; omega

/-- The function values. -/
theorem hid_pred (w : World) : PredAt Tryz.prog 54 #[] encR hidR w := fun W r _ => by
  unfold FnGives hidR
  by_cases h1 : r ≤ 32 <;> by_cases h2 : 126 < r
  all_goals
    have z1 : (r : Int) ≤ 32 ↔ r ≤ 32 := by omega
    have z2 : (126 : Int) < (r : Int) ↔ 126 < r := by omega
    go_enter Tryz.func54, Tryz.ntmps54
    go_wp2
    all_goals first | (exfalso; omega) | (go_ret; exact ⟨by simp [h1, h2], 0, rfl⟩)
theorem oth_pred (w : World) : PredAt Tryz.prog 14 #[] encR othR w := fun W r _ => by
  unfold FnGives
  have hc : (r < 65 ∧ othR r = true) ∨ (65 ≤ r ∧ r ≤ 90 ∧ othR r = false) ∨ (90 < r ∧ r < 97 ∧ othR r = true) ∨ (97 ≤ r ∧ r ≤ 122 ∧ othR r = false) ∨ (122 < r ∧ othR r = true) := by
    unfold othR
    by_cases h1 : r < 65
    · exact .inl ⟨h1, by simp; omega⟩
    · by_cases h2 : r ≤ 90
      · exact .inr (.inl ⟨by omega, h2, by simp; omega⟩)
      · by_cases h3 : r < 97
        · exact .inr (.inr (.inl ⟨by omega, h3, by simp; omega⟩))
        · by_cases h4 : r ≤ 122
          · exact .inr (.inr (.inr (.inl ⟨by omega, h4, by simp; omega⟩)))
          · exact .inr (.inr (.inr (.inr ⟨by omega, by simp; omega⟩)))
  rcases hc with ⟨h1, hr⟩ | ⟨h1, h2, hr⟩ | ⟨h1, h2, hr⟩ | ⟨h1, h2, hr⟩ | ⟨h1, hr⟩
  all_goals
    rw [hr]
    have z1 : (97 : Int) ≤ (r : Int) ↔ 97 ≤ r := by omega
    have z2 : (r : Int) ≤ 122 ↔ r ≤ 122 := by omega
    have z3 : (65 : Int) ≤ (r : Int) ↔ 65 ≤ r := by omega
    have z4 : (r : Int) ≤ 90 ↔ r ≤ 90 := by omega
    clear hr
    go_enter Tryz.func14, Tryz.ntmps14
    go_wp2
    all_goals first | (exfalso; omega) | (go_ret; exact ⟨by first | rfl | (simp; omega), 0, rfl⟩)

attribute [local go_sem] str_toList

theorem all_take {q : UInt8 → Bool} : ∀ l : List UInt8, (l.takeWhile q).length < l.length ↔ l.all q = false
  | [] => by simp
  | c :: l => by
    have ih := all_take (q := q) l
    cases hc : q c with
    | true => rw [List.takeWhile_cons_of_pos hc]; simp [hc] at ih ⊢; exact ih
    | false => rw [List.takeWhile_cons_of_neg (by simp [hc])]; simp [hc]
theorem vis_any (s : List UInt8) (w : World) (hG : GoodA w) :
    Calls Tryz.prog 39 #[.string (str s)] w fun e w' => e = .returned (.bool (visP s)) ∧ Below w.heap.size w w' := by
  have hC := fun W => Tryz.strings_IndexFunc 54 #[] (enters_of Tryz.func54 (by kernel_rfl) rfl) hidR (str s) W (hid_pred W)
  rw [idx_of hid_kind] at hC
  by_cases h0 : s = []
  · have e1 : (s == []) = true := by simpa using h0
    have e2 : s.isEmpty = true := by simpa using h0
    have hR : visP s = false := by rw [h0]; rfl
    rw [hR]
    clear h0 hR
    go_enter Tryz.func39, Tryz.ntmps39
    go_wp2_with fail
    go_ret
    exact ⟨by first | rfl | simp, Below.refl _ _⟩
  · have e2 : s.isEmpty = false := by simpa using h0
    have e1 : (s == []) = false := by simpa using h0
    by_cases hl : (s.takeWhile vis).length < s.length
    · have hR : visP s = false := by unfold visP; rw [(all_take s).1 hl, Bool.and_false]
      rw [hR]
      rw [if_pos hl] at hC
      have e3 : decide (((s.takeWhile vis).length : Int) < 0) = false := decide_eq_false (by omega)
      clear hR h0 hl
      go_enter Tryz.func39, Tryz.ntmps39
      go_wp2_with (go_at_call 15; refine (hC _).mono ?_; rintro e w1 ⟨rfl, hb1⟩)
      go_ret
      exact ⟨by first | rfl | simp, hb1⟩
    · have hR : visP s = true := by
        unfold visP
        have : s.all vis = true := by cases hq : s.all vis with | true => rfl | false => exact absurd ((all_take s).2 hq) hl
        rw [this, e2]; rfl
      rw [hR]
      rw [if_neg hl] at hC
      clear hR h0 hl
      go_enter Tryz.func39, Tryz.ntmps39
      go_wp2_with (go_at_call 15; refine (hC _).mono ?_; rintro e w1 ⟨rfl, hb1⟩)
      go_ret
      exact ⟨by first | rfl | simp, hb1⟩

theorem below_q (w : World) (q : Nat) : Below w.heap.size w (w.drewN q) := ⟨rfl, rfl, rfl, Nat.le_refl _, fun _ _ => rfl⟩
theorem cutsp_any (s : List UInt8) (w : World) (hG : GoodA w) (hs : s.length ≤ 2147483648) : Calls Tryz.prog 40 #[.string (str s), .string { data := #[32] }] w fun e w' => e = .returned (.tuple #[.string (str (Lib.cut s [32]).1), .string (str (Lib.cut s [32]).2.1), .bool (Lib.cut s [32]).2.2]) ∧ Below w.heap.size w w' := by
  refine (cut_exact 32 s w hG hs).mono ?_
  rintro e w' ⟨rfl, q, rfl⟩
  exact ⟨rfl, below_q w q⟩
theorem triml_any (s : List UInt8) (w : World) : Calls Tryz.prog 41 #[.string (str s), .string { data := #[32] }] w fun e w' => e = .returned (.string (str (Lib.trimLeftB s 32))) ∧ w = w' :=
  (Tryz.strings_TrimLeft_one (str s) 32 (by decide) w).mono fun _ _ ⟨he, hw⟩ => ⟨he, hw.symm⟩
theorem trimr_any (s : List UInt8) (w : World) (hs : s.length ≤ 2147483648) : Calls Tryz.prog 17 #[.string (str s), .string { data := #[32] }] w fun e w' => e = .returned (.string (str (Lib.trimRightB s 32))) ∧ w = w' :=
  (Tryz.strings_TrimRight_one (str s) 32 (by decide) w (by rw [str_size]; omega)).mono fun _ _ ⟨he, hw⟩ => ⟨he, hw.symm⟩
theorem pre_one (c : UInt8) (s : List UInt8) : (Lib.hasPrefix s [c] = true ∧ ∃ t, s = c :: t ∧ Lib.trimPrefix s [c] = t) ∨ (Lib.hasPrefix s [c] = false ∧ s.head? ≠ some c) := by
  cases s with
  | nil => exact .inr ⟨rfl, by simp⟩
  | cons d t =>
    by_cases h : d = c
    · subst h
      have hp : Lib.hasPrefix (d :: t) [d] = true := by simp [Lib.hasPrefix, List.isPrefixOf]
      exact .inl ⟨hp, t, rfl, by unfold Lib.trimPrefix; rw [if_pos hp]; rfl⟩
    · refine .inr ⟨?_, by simpa using h⟩
      have : (c == d) = false := by rw [beq_eq_false_iff_ne]; exact fun e => h e.symm
      simp [Lib.hasPrefix, List.isPrefixOf, this]

/-- Block b holds a command; its arguments lie behind it. -/
def CmdAt (w : World) (b : Nat) (c : Cmd) : Prop :=
  ∃ v, w.heap[b]? = some (.cells #[.string (str c.1), .string (str c.2.1), v, .int .i64 c.2.2.2] 25 (0, 0)) ∧ SBuf (b + 1) w v c.2.2.1
section
variable {w w' : World} {b : Nat} {c : Cmd}
theorem CmdAt.lt (h : CmdAt w b c) : b < w.heap.size := by obtain ⟨v, h1, _⟩ := h; exact lt_of_block h1
theorem CmdAt.below (h : CmdAt w b c) (hb : Below w.heap.size w w') : CmdAt w' b c := by
  obtain ⟨v, h1, h2⟩ := h
  exact ⟨v, (hb.block b (lt_of_block h1)).trans h1, h2.keep hb⟩
end
/-- A command's block is being read: what is in its cells. -/
structure CmdIs (w : World) (b : Nat) (W p : List UInt8) (v : Value) (n : Int) : Prop where
  blk : w.heap[b]? = some (.cells #[.string (str W), .string (str p), v, .int .i64 n] 25 (0, 0))
section
variable {w w' : World} {b : Nat} {W p : List UInt8} {v : Value} {n : Int}
theorem CmdIs.c0 (h : CmdIs w b W p v n) : w.cell? ⟨b, 0, none⟩ = some (.string (str W)) := by rw [cells_at h.blk]; rfl
theorem CmdIs.c1 (h : CmdIs w b W p v n) : w.cell? ⟨b, 1, none⟩ = some (.string (str p)) := by rw [cells_at h.blk]; rfl
theorem CmdIs.c2 (h : CmdIs w b W p v n) : w.cell? ⟨b, 2, none⟩ = some v := by rw [cells_at h.blk]; rfl
theorem CmdIs.c3 (h : CmdIs w b W p v n) : w.cell? ⟨b, 3, none⟩ = some (.int .i64 n) := by rw [cells_at h.blk]; rfl
theorem CmdIs.free (h : CmdIs w b W p v n) (j : Nat) : w.frozen? ⟨b, j, none⟩ = false := free_at h.blk j
theorem CmdIs.lt (h : CmdIs w b W p v n) : b < w.heap.size := lt_of_block h.blk
theorem CmdIs.below (h : CmdIs w b W p v n) (hb : Below w.heap.size w w') : CmdIs w' b W p v n := ⟨(hb.block b h.lt).trans h.blk⟩
theorem CmdIs.alloc (h : CmdIs w b W p v n) (o : Obj) : CmdIs (w.alloc o) b W p v n := h.below ((Below.refl _ _).alloc (Nat.le_refl _) o)
theorem CmdIs.set1 (h : CmdIs w b W p v n) (x : List UInt8) : CmdIs (w.setCell ⟨b, 1, none⟩ (.string (str x))) b W x v n := ⟨block_set h.blk _⟩
theorem CmdIs.set2 (h : CmdIs w b W p v n) (x : Value) : CmdIs (w.setCell ⟨b, 2, none⟩ x) b W p x n := ⟨block_set h.blk _⟩
theorem CmdIs.set3 (h : CmdIs w b W p v n) (x : Int) : CmdIs (w.setCell ⟨b, 3, none⟩ (.int .i64 x)) b W p v x := ⟨block_set h.blk _⟩
theorem CmdIs.new (w : World) (W p : List UInt8) (v : Value) (n : Int) : CmdIs (w.alloc (.cells #[.string (str W), .string (str p), v, .int .i64 n] 25)) w.heap.size W p v n := ⟨heap_alloc_new w _⟩
theorem CmdIs.at_ (h : CmdIs w b W p v n) {l : List (List UInt8)} (hs : SBuf (b + 1) w v l) : CmdAt w b (W, p, l, n) := ⟨v, h.blk, hs⟩
end

end Go.Proofs.YtdbggicpcbecdaaGreatDoor
