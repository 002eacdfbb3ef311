/-
  A text read as bytes by letters, bit by bit: plain laws. No program here.
-/
import Derived.Test.YtnphpinnkmndfaaDoorDecLaw
namespace Go.Proofs.YtnphpinnkmndfaaDoor.Enc
set_option linter.unusedVariables false
set_option linter.unusedSimpArgs false
set_option maxRecDepth 100000

/-- What the reference's letters say. -/
def rvN (c : Nat) : Int := if 65 ≤ c ∧ c ≤ 90 then c - 65 else if 97 ≤ c ∧ c ≤ 122 then c - 97 + 26 else if 48 ≤ c ∧ c ≤ 57 then c - 48 + 52 else if c = 43 then 62 else if c = 47 then 63 else -1
theorem rv_all : ∀ n : Fin 256, lv (UInt8.ofNat n.val) = rvN n.val := by decide
theorem rv_eq (c : UInt8) : lv c = rvN c.toNat := by
  have := rv_all ⟨c.toNat, c.toNat_lt⟩
  simpa using this

/-- Letters read behind 2m bits n. -/
def rdec : Nat → Nat → List UInt8 → Option (List UInt8)
  | n, m, [] => some []
  | n, m, c :: l => if c = 61 then some [] else if lv c < 0 then none else
      if m = 0 then rdec (64 * n + (lv c).toNat) 3 l
      else (rdec ((64 * n + (lv c).toNat) % 4 ^ (m - 1)) (m - 1) l).map fun y => UInt8.ofNat ((64 * n + (lv c).toNat) / 4 ^ (m - 1)) :: y
theorem rdec_cons (n m : Nat) (c : UInt8) (l : List UInt8) : rdec n m (c :: l) = if c = 61 then some [] else if lv c < 0 then none else
      if m = 0 then rdec (64 * n + (lv c).toNat) 3 l
      else (rdec ((64 * n + (lv c).toNat) % 4 ^ (m - 1)) (m - 1) l).map fun y => UInt8.ofNat ((64 * n + (lv c).toNat) / 4 ^ (m - 1)) :: y := rfl
theorem rdec_zero (n k : Nat) (h : k < 64) (l : List UInt8) : rdec n 0 (Lc k :: l) = rdec (64 * n + k) 3 l := by
  rw [rdec_cons, if_neg (Lc_ne h), lv_Lc h, if_neg (by omega), if_pos rfl]; rfl
theorem rdec_more (n m k : Nat) (h : k < 64) (l : List UInt8) : rdec n (m + 1) (Lc k :: l) = (rdec ((64 * n + k) % 4 ^ m) m l).map fun y => UInt8.ofNat ((64 * n + k) / 4 ^ m) :: y := by
  rw [rdec_cons, if_neg (Lc_ne h), lv_Lc h, if_neg (by omega), if_neg (by omega)]; rfl
theorem rdec_eq (n m : Nat) (l : List UInt8) : rdec n m (61 :: l) = some [] := by rw [rdec_cons, if_pos rfl]

theorem rdec_enc : ∀ b : List UInt8, rdec 0 0 (enc b) = some b
  | [] => by rw [enc_nil]; rfl
  | [a] => by
    have := a.toNat_lt
    rw [enc_one]
    obtain ⟨x, hx⟩ : ∃ x, x = a.toNat * 65536 / 262144 := ⟨_, rfl⟩
    obtain ⟨y, hy⟩ : ∃ y, y = a.toNat * 65536 / 4096 % 64 := ⟨_, rfl⟩
    rw [← hx, ← hy, rdec_zero _ _ (by omega), rdec_more _ 2 _ (by omega), rdec_eq]
    show some [UInt8.ofNat ((64 * (64 * 0 + x) + y) / 16)] = _
    rw [of_byte a _ (by omega)]
  | [a, b] => by
    have := a.toNat_lt
    have := b.toNat_lt
    rw [enc_two]
    obtain ⟨v, hv⟩ : ∃ v, v = a.toNat * 65536 + b.toNat * 256 := ⟨_, rfl⟩
    rw [← hv]
    obtain ⟨x, hx⟩ : ∃ x, x = v / 262144 := ⟨_, rfl⟩
    obtain ⟨y, hy⟩ : ∃ y, y = v / 4096 % 64 := ⟨_, rfl⟩
    obtain ⟨z, hz⟩ : ∃ z, z = v / 64 % 64 := ⟨_, rfl⟩
    rw [← hx, ← hy, ← hz, rdec_zero _ _ (by omega), rdec_more _ 2 _ (by omega), rdec_more _ 1 _ (by omega), rdec_eq]
    show some [UInt8.ofNat ((64 * (64 * 0 + x) + y) / 16), UInt8.ofNat ((64 * ((64 * (64 * 0 + x) + y) % 16) + z) / 4)] = _
    rw [of_byte a _ (by omega), of_byte b _ (by omega)]
  | a :: b :: c :: r => by
    have := a.toNat_lt
    have := b.toNat_lt
    have := c.toNat_lt
    rw [enc_three]
    obtain ⟨v, hv⟩ : ∃ v, v = a.toNat * 65536 + b.toNat * 256 + c.toNat := ⟨_, rfl⟩
    rw [← hv]
    obtain ⟨x, hx⟩ : ∃ x, x = v / 262144 := ⟨_, rfl⟩
    obtain ⟨y, hy⟩ : ∃ y, y = v / 4096 % 64 := ⟨_, rfl⟩
    obtain ⟨z, hz⟩ : ∃ z, z = v / 64 % 64 := ⟨_, rfl⟩
    obtain ⟨u, hu⟩ : ∃ u, u = v % 64 := ⟨_, rfl⟩
    rw [← hx, ← hy, ← hz, ← hu]
    show rdec 0 0 (Lc x :: Lc y :: Lc z :: Lc u :: enc r) = _
    rw [rdec_zero _ _ (by omega), rdec_more _ 2 _ (by omega), rdec_more _ 1 _ (by omega), rdec_more _ 0 _ (by omega), Nat.pow_zero, Nat.mod_one, rdec_enc r]
    show some (UInt8.ofNat ((64 * (64 * 0 + x) + y) / 16) :: UInt8.ofNat ((64 * ((64 * (64 * 0 + x) + y) % 16) + z) / 4) :: UInt8.ofNat ((64 * ((64 * ((64 * (64 * 0 + x) + y) % 16) + z) % 4) + u) / 1) :: r) = _
    rw [of_byte a _ (by omega), of_byte b _ (by omega), of_byte c _ (by omega)]
/-- The reference's reader gives what the program's gives. -/
theorem decV_rnone {s : List UInt8} (h : rdec 0 0 s = none) : decV s = ([], 70) := decV_bad fun b hb => by rw [← hb, rdec_enc] at h; cases h
theorem decV_rsome {s o : List UInt8} (h : rdec 0 0 s = some o) : decV s = if enc o = s then (o, 0) else ([], 70) := by
  split
  · rename_i e; exact decV_ok e
  · rename_i e; exact decV_bad fun b hb => by rw [← hb, rdec_enc] at h; obtain rfl := Option.some.inj h; exact e hb

theorem enc_lens : ∀ b : List UInt8, b.length ≤ (enc b).length ∧ (enc b).length ≤ 4 * b.length
  | [] => by rw [enc_nil]; simp
  | [a] => by rw [enc_one]; simp
  | [a, b] => by rw [enc_two]; simp
  | a :: b :: c :: r => by
    have := enc_lens r
    rw [enc_three, List.length_append]
    simp
    omega
theorem enc_len (b : List UInt8) : (enc b).length ≤ 4 * b.length := (enc_lens b).2
theorem enc_ge (b : List UInt8) : b.length ≤ (enc b).length := (enc_lens b).1

end Go.Proofs.YtnphpinnkmndfaaDoor.Enc
