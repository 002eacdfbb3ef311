/-
  A text's parts between bytes of a kind: plain laws. No program here.
-/
import Derived.Lib.Split
import Derived.Lib.Join
namespace Go.Proofs.YtdbggicpcbecdaaGreatDoor.Spl
open Go
set_option linter.unusedVariables false
set_option linter.unusedSimpArgs false

def splitL (c : UInt8) : List UInt8 → List (List UInt8)
  | [] => [[]]
  | x :: t => if x = c then [] :: splitL c t else match splitL c t with
    | [] => [[x]]
    | h :: r => (x :: h) :: r
theorem splitL_ne (c : UInt8) : ∀ l : List UInt8, splitL c l ≠ []
  | [] => by simp [splitL]
  | x :: t => by
    unfold splitL
    split
    · simp
    · split <;> simp
theorem splitL_none {c : UInt8} : ∀ {l : List UInt8}, c ∉ l → splitL c l = [l]
  | [], _ => rfl
  | x :: t, h => by
    have h1 : x ≠ c := fun e => h (by rw [e]; simp)
    have h2 : c ∉ t := fun e => h (by simp [e])
    unfold splitL
    rw [if_neg h1, splitL_none h2]
theorem splitL_at {c : UInt8} : ∀ {a : List UInt8} (b : List UInt8), c ∉ a → splitL c (a ++ c :: b) = a :: splitL c b
  | [], b, _ => by simp [splitL]
  | x :: t, b, h => by
    have h1 : x ≠ c := fun e => h (by rw [e]; simp)
    have h2 : c ∉ t := fun e => h (by simp [e])
    rw [List.cons_append]
    show (if x = c then _ else _) = _
    rw [if_neg h1, splitL_at b h2]
theorem first (c : UInt8) : ∀ l : List UInt8, c ∉ l ∨ ∃ a b, l = a ++ c :: b ∧ c ∉ a
  | [] => .inl (by simp)
  | x :: t => by
    by_cases hx : x = c
    · exact .inr ⟨[], t, by rw [hx]; rfl, by simp⟩
    · rcases first c t with h | ⟨a, b, h, h2⟩
      · exact .inl (by simp [Ne.symm hx, h])
      · exact .inr ⟨x :: a, b, by rw [h]; rfl, by simp [Ne.symm hx, h2]⟩
theorem index_none {c : UInt8} : ∀ {l : List UInt8}, c ∉ l → Lib.index l [c] = -1
  | [], _ => by simp [Lib.index, List.isPrefixOf]
  | x :: t, h => by
    have h1 : (c == x) = false := by rw [beq_eq_false_iff_ne]; exact fun e => h (by rw [e]; simp)
    have h2 : c ∉ t := fun e => h (by simp [e])
    unfold Lib.index
    simp [List.isPrefixOf, h1, index_none h2]
theorem index_at {c : UInt8} : ∀ {a : List UInt8} (b : List UInt8), c ∉ a → Lib.index (a ++ c :: b) [c] = a.length
  | [], b, _ => by simp [Lib.index, List.isPrefixOf]
  | x :: t, b, h => by
    have h1 : (c == x) = false := by rw [beq_eq_false_iff_ne]; exact fun e => h (by rw [e]; simp)
    have h2 : c ∉ t := fun e => h (by simp [e])
    rw [List.cons_append]
    unfold Lib.index
    have hne : ((t.length : Int) == -1) = false := by rw [beq_eq_false_iff_ne]; omega
    simp [List.isPrefixOf, h1, index_at b h2, hne]
theorem cut_none {c : UInt8} {l : List UInt8} (h : c ∉ l) : Lib.cut l [c] = (l, [], false) := by
  unfold Lib.cut
  rw [index_none h, if_neg (by decide)]
theorem cut_at {c : UInt8} {a : List UInt8} (b : List UInt8) (h : c ∉ a) : Lib.cut (a ++ c :: b) [c] = (a, b, true) := by
  unfold Lib.cut
  rw [index_at b h, if_pos (by omega)]
  simp
theorem split_eq (c : UInt8) : ∀ (n : Nat) (l : List UInt8), l.length ≤ n → Lib.split l [c] = splitL c l
  | n, l, hn => by
    unfold Lib.split
    rcases first c l with h | ⟨a, b, rfl, h⟩
    · rw [Lib.count_miss (index_none h), splitL_none h]; rfl
    · have hi := index_at b h
      rw [Lib.count_hit (i := a.length) (by simp) hi, splitL_at b h, Nat.add_comm 1]
      cases n with
      | zero => simp at hn
      | succ n =>
        have ih := split_eq c n b (by simp at hn; omega)
        unfold Lib.split at ih
        have hd : (a ++ c :: b).drop (a.length + [c].length) = b := by
          rw [show a ++ c :: b = (a ++ [c]) ++ b by simp, show a.length + [c].length = (a ++ [c]).length by simp, List.drop_left]
        have hm : ¬ (Lib.index (a ++ c :: b) [c] == -1) = true := fun e => by have := beq_iff_eq.1 e; omega
        unfold Lib.splitK
        rw [if_neg hm, hi, Int.toNat_natCast, hd, ih, Nat.add_zero, List.take_left]
theorem splitL_len (c : UInt8) : ∀ l : List UInt8, (splitL c l).length ≤ l.length + 1
  | [] => by simp [splitL]
  | x :: t => by
    have := splitL_len c t
    unfold splitL
    split
    · simp; omega
    · split
      · simp
      · rename_i h r he; rw [he] at this; simp at this ⊢; omega
theorem splitL_parts (c : UInt8) : ∀ (l : List UInt8), ∀ x ∈ splitL c l, c ∉ x ∧ x.length ≤ l.length
  | [], x, hx => by simp [splitL] at hx; subst hx; simp
  | y :: t, x, hx => by
    have ih := splitL_parts c t
    unfold splitL at hx
    split at hx
    · rcases List.mem_cons.1 hx with rfl | h
      · simp
      · obtain ⟨h1, h2⟩ := ih x h
        exact ⟨h1, by simp; omega⟩
    · rename_i hy
      split at hx
      · simp at hx
        subst hx
        exact ⟨by simp [Ne.symm hy], by simp⟩
      · rename_i h r he
        rcases List.mem_cons.1 hx with rfl | h3
        · obtain ⟨h1, h2⟩ := ih h (by rw [he]; simp)
          exact ⟨by simp [Ne.symm hy, h1], by simp; omega⟩
        · obtain ⟨h1, h2⟩ := ih x (by rw [he]; simp [h3])
          exact ⟨h1, by simp; omega⟩

end Go.Proofs.YtdbggicpcbecdaaGreatDoor.Spl
