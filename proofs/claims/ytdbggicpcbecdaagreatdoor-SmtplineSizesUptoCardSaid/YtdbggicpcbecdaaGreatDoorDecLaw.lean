/-
  A text read as bytes by letters: plain laws. No program here.
-/
import Derived.Test.YtdbggicpcbecdaaGreatDoorEncLaw
import Derived.Lib.TrimByte
import Derived.Lib.IndexLaws
namespace Go.Proofs.YtdbggicpcbecdaaGreatDoor.Enc
set_option linter.unusedVariables false
set_option linter.unusedSimpArgs false
set_option maxRecDepth 100000

/-- What a letter says; -1: none. -/
def lv (c : UInt8) : Int := Lib.indexByte L64 c
theorem L64_low : ∀ c ∈ L64, c.toNat ≤ 122 := by decide
theorem L64_lv : ∀ n : Fin 64, lv (Lc n.val) = n.val := by decide
theorem L64_ne : ∀ n : Fin 64, Lc n.val ≠ 61 := by decide
theorem lv_Lc {n : Nat} (h : n < 64) : lv (Lc n) = n := L64_lv ⟨n, h⟩
theorem Lc_ne {n : Nat} (h : n < 64) : Lc n ≠ 61 := L64_ne ⟨n, h⟩
theorem lv_rng (c : UInt8) : lv c = -1 ∨ ∃ k : Nat, lv c = k ∧ k < 64 ∧ c.toNat ≤ 122 := by
  rcases Int.lt_or_le (lv c) 0 with h | h
  · have := Lib.indexByte_ge L64 c
    unfold lv at *
    exact .inl (by omega)
  · obtain ⟨k, hk⟩ := Int.eq_ofNat_of_zero_le h
    have h1 := (Lib.indexByte_some (l := L64) (c := c) (o := k) hk).1
    obtain ⟨h2, h3⟩ := List.getElem?_eq_some_iff.1 h1
    exact .inr ⟨k, hk, h2, L64_low c (h3 ▸ List.getElem_mem h2)⟩

/-- Letters as a number. -/
def vfold : Nat → List UInt8 → Option Nat
  | n, [] => some n
  | n, c :: l => if lv c < 0 then none else vfold (n * 64 + (lv c).toNat) l
theorem vfold_cons (n : Nat) (c : UInt8) (l : List UInt8) : vfold n (c :: l) = if lv c < 0 then none else vfold (n * 64 + (lv c).toNat) l := rfl
theorem vfold_Lc (n k : Nat) (h : k < 64) (l : List UInt8) : vfold n (Lc k :: l) = vfold (n * 64 + k) l := by
  rw [vfold_cons, lv_Lc h, if_neg (by omega)]; rfl
/-- The bytes of n letters' bits. -/
def b3 (n V : Nat) : List UInt8 := ([UInt8.ofNat (V * 64 ^ (4 - n) / 65536), UInt8.ofNat (V * 64 ^ (4 - n) / 256), UInt8.ofNat (V * 64 ^ (4 - n))]).take (n - 1)
def decQ (q : List UInt8) : Option (List UInt8) := (vfold 0 (Lib.trimRightB q 61)).map (b3 (Lib.trimRightB q 61).length)
def decP : List UInt8 → Option (List UInt8)
  | a :: b :: c :: d :: r => (decQ [a, b, c, d]).bind fun x => (decP r).map fun y => x ++ y
  | _ => some []
theorem decP_step (a b c d : UInt8) (r : List UInt8) : decP (a :: b :: c :: d :: r) = (decQ [a, b, c, d]).bind fun x => (decP r).map fun y => x ++ y := by rw [decP]
theorem decP_end (l : List UInt8) (h : l.length < 4) : decP l = some [] := by
  rcases l with _ | ⟨a, _ | ⟨b, _ | ⟨c, _ | ⟨d, r⟩⟩⟩⟩
  · rfl
  · rfl
  · rfl
  · rfl
  · simp at h; omega

theorem trim4 (a b c d : UInt8) (h : d ≠ 61) : Lib.trimRightB [a, b, c, d] 61 = [a, b, c, d] := by
  have h1 : (d == 61) = false := beq_eq_false_iff_ne.2 h
  simp [Lib.trimRightB, List.dropWhile, h1]
theorem trim3 (a b c : UInt8) (h : c ≠ 61) : Lib.trimRightB [a, b, c, 61] 61 = [a, b, c] := by
  have h1 : (c == 61) = false := beq_eq_false_iff_ne.2 h
  simp [Lib.trimRightB, List.dropWhile, h1]
theorem trim2 (a b : UInt8) (h : b ≠ 61) : Lib.trimRightB [a, b, 61, 61] 61 = [a, b] := by
  have h1 : (b == 61) = false := beq_eq_false_iff_ne.2 h
  simp [Lib.trimRightB, List.dropWhile, h1]
theorem of_byte (a : UInt8) (n : Nat) (h : n % 256 = a.toNat) : UInt8.ofNat n = a := by
  apply UInt8.toNat_inj.mp
  simp [h]
theorem decP_enc : ∀ b : List UInt8, decP (enc b) = some b
  | [] => by rw [enc_nil]; rfl
  | [a] => by
    have := a.toNat_lt
    rw [enc_one]
    obtain ⟨x, hx⟩ : ∃ x, x = a.toNat * 65536 / 262144 := ⟨_, rfl⟩
    obtain ⟨y, hy⟩ : ∃ y, y = a.toNat * 65536 / 4096 % 64 := ⟨_, rfl⟩
    rw [← hx, ← hy, decP_step]
    unfold decQ
    rw [trim2 _ _ (Lc_ne (by omega)), vfold_Lc _ _ (by omega), vfold_Lc _ _ (by omega)]
    show some ([UInt8.ofNat (((0 * 64 + x) * 64 + y) * 4096 / 65536)] ++ []) = _
    rw [of_byte a _ (by omega)]
    rfl
  | [a, b] => by
    have := a.toNat_lt
    have := b.toNat_lt
    rw [enc_two]
    obtain ⟨v, hv⟩ : ∃ v, v = a.toNat * 65536 + b.toNat * 256 := ⟨_, rfl⟩
    rw [← hv]
    obtain ⟨x, hx⟩ : ∃ x, x = v / 262144 := ⟨_, rfl⟩
    obtain ⟨y, hy⟩ : ∃ y, y = v / 4096 % 64 := ⟨_, rfl⟩
    obtain ⟨z, hz⟩ : ∃ z, z = v / 64 % 64 := ⟨_, rfl⟩
    rw [← hx, ← hy, ← hz, decP_step]
    unfold decQ
    rw [trim3 _ _ _ (Lc_ne (by omega)), vfold_Lc _ _ (by omega), vfold_Lc _ _ (by omega), vfold_Lc _ _ (by omega)]
    show some ([UInt8.ofNat ((((0 * 64 + x) * 64 + y) * 64 + z) * 64 / 65536), UInt8.ofNat ((((0 * 64 + x) * 64 + y) * 64 + z) * 64 / 256)] ++ []) = _
    rw [of_byte a _ (by omega), of_byte b _ (by omega)]
    rfl
  | a :: b :: c :: r => by
    have := a.toNat_lt
    have := b.toNat_lt
    have := c.toNat_lt
    rw [enc_three]
    obtain ⟨v, hv⟩ : ∃ v, v = a.toNat * 65536 + b.toNat * 256 + c.toNat := ⟨_, rfl⟩
    rw [← hv]
    obtain ⟨x, hx⟩ : ∃ x, x = v / 262144 := ⟨_, rfl⟩
    obtain ⟨y, hy⟩ : ∃ y, y = v / 4096 % 64 := ⟨_, rfl⟩
    obtain ⟨z, hz⟩ : ∃ z, z = v / 64 % 64 := ⟨_, rfl⟩
    obtain ⟨u, hu⟩ : ∃ u, u = v % 64 := ⟨_, rfl⟩
    rw [← hx, ← hy, ← hz, ← hu]
    show decP (Lc x :: Lc y :: Lc z :: Lc u :: enc r) = _
    rw [decP_step, decP_enc r]
    unfold decQ
    rw [trim4 _ _ _ _ (Lc_ne (by omega)), vfold_Lc _ _ (by omega), vfold_Lc _ _ (by omega), vfold_Lc _ _ (by omega), vfold_Lc _ _ (by omega)]
    show some ([UInt8.ofNat (((((0 * 64 + x) * 64 + y) * 64 + z) * 64 + u) * 1 / 65536), UInt8.ofNat (((((0 * 64 + x) * 64 + y) * 64 + z) * 64 + u) * 1 / 256), UInt8.ofNat (((((0 * 64 + x) * 64 + y) * 64 + z) * 64 + u) * 1)] ++ r) = _
    rw [of_byte a _ (by omega), of_byte b _ (by omega), of_byte c _ (by omega)]
    rfl
theorem enc_inj {a b : List UInt8} (h : enc a = enc b) : a = b := by
  have h1 := decP_enc a
  rw [h, decP_enc b] at h1
  exact (Option.some.inj h1).symm

open Classical in
/-- What is read: the bytes and the error's number. -/
noncomputable def decV (s : List UInt8) : List UInt8 × Int := if h : ∃ b, enc b = s then (h.choose, 0) else ([], 70)
theorem decV_ok {s b : List UInt8} (h : enc b = s) : decV s = (b, 0) := by
  have hx : ∃ b, enc b = s := ⟨b, h⟩
  unfold decV
  rw [dif_pos hx]
  rw [enc_inj (hx.choose_spec.trans h.symm)]
theorem decV_bad {s : List UInt8} (h : ∀ b, enc b ≠ s) : decV s = ([], 70) := by
  unfold decV
  rw [dif_neg (fun ⟨b, hb⟩ => h b hb)]
/-- A reader that gives back what was written, and nothing else. -/
theorem decV_none {s : List UInt8} (h : decP s = none) : decV s = ([], 70) := decV_bad fun b hb => by rw [← hb, decP_enc] at h; cases h
theorem decV_some {s o : List UInt8} (h : decP s = some o) : decV s = if enc o = s then (o, 0) else ([], 70) := by
  split
  · rename_i e; exact decV_ok e
  · rename_i e; exact decV_bad fun b hb => by rw [← hb, decP_enc] at h; obtain rfl := Option.some.inj h; exact e hb
theorem trim_len (q : List UInt8) : (Lib.trimRightB q 61).length ≤ q.length := by
  unfold Lib.trimRightB
  rw [List.length_reverse]
  have := (List.dropWhile_sublist (l := q.reverse) (p := (· == 61))).length_le
  rwa [List.length_reverse] at this
end Go.Proofs.YtdbggicpcbecdaaGreatDoor.Enc
