/-
  Commands of SMTP: plain laws. No program here.
-/
import Derived.Test.YtdbggicpcbecdaaGreatDoorAd
import Derived.Test.YtdbggicpcbecdaaGreatDoorDec
import Derived.Test.YtdbggicpcbecdaaGreatDoorTurn
import Derived.Lib.TrimByte
namespace Go.Proofs.YtdbggicpcbecdaaGreatDoor.Sm
open Go.Proofs.YtdbggicpcbecdaaGreatDoor
set_option linter.unusedVariables false
set_option linter.unusedSimpArgs false

abbrev Bt := List UInt8
/-- A command: its word, its path, its arguments, its size. -/
abbrev Cmd := Bt × Bt × List Bt × Int
def zero : Cmd := ([], [], [], 0)
def isAl (c : UInt8) : Bool := decide (97 ≤ c.toNat ∧ c.toNat ≤ 122 ∨ 65 ≤ c.toNat ∧ c.toNat ≤ 90)
def vis (c : UInt8) : Bool := decide (33 ≤ c.toNat ∧ c.toNat ≤ 126)
def visP (s : Bt) : Bool := !s.isEmpty && s.all vis
def great (l : Bt) : Bt := l.map (moveB 97 65)
/-- The commands' words: what each leans on, how it is read. -/
def forms : List (Bt × (Bt × Nat)) :=
  [([72, 69, 76, 79], [], 0), ([69, 72, 76, 79], [], 0), ([76, 72, 76, 79], [], 0), ([86, 82, 70, 89], [], 0),
   ([68, 65, 84, 65], [], 1), ([82, 83, 69, 84], [], 1), ([78, 79, 79, 80], [], 1), ([81, 85, 73, 84], [], 1),
   ([65, 85, 84, 72], [], 2), ([77, 65, 73, 76], [70, 82, 79, 77, 58], 3), ([82, 67, 80, 84], [84, 79, 58], 3)]
def formK (w : Bt) : Option (Bt × Nat) := (forms.find? fun p => p.1 == w).map (·.2)
/-- What a form reads: a path, arguments, a size. -/
abbrev Got := Except Int (Bt × List Bt × Int)
def oneR : Bt → Got
  | 32 :: t => if visP t = true then .ok ([], [t], 0) else .error 160
  | _ => .error 160
def nothingR (r : Bt) : Got := if r = [] then .ok ([], [], 0) else .error 160
def authR : Bt → Got
  | 32 :: t => if visP (Lib.cut t [32]).1 = false ∨ (Lib.cut t [32]).2.2 = true ∧ visP (Lib.cut t [32]).2.1 = false then .error 160
      else .ok ([], great (Lib.cut t [32]).1 :: (if (Lib.cut t [32]).2.2 = true then [(Lib.cut t [32]).2.1] else []), 0)
  | _ => .error 160
def most : Int := 4294967295
def sizeR (p : Bt) : Option Int := if Lib.hasPrefix (great p) [83, 73, 90, 69, 61] = true ∧ (Dec.numR ((great p).drop 5) most).2 = true then some (Dec.numR ((great p).drop 5) most).1 else none
/-- The parameters; none: a word that may not stand. -/
def parR (rcpt : Bool) : Nat → Bool → Bt → Bool → Int → Option (Bool × Int)
  | _, false, _, odd, n => some (odd, n)
  | 0, true, _, _, _ => none
  | f + 1, true, ps, odd, n =>
    let q := Lib.cut (Lib.trimLeftB ps 32) [32]
    if visP q.1 = true then match (if rcpt = true then none else sizeR q.1) with
      | none => parR rcpt f q.2.2 q.2.1 true n
      | some m => parR rcpt f q.2.2 q.2.1 odd m
    else none
def pathR (key : Bt) (rcpt : Bool) : Bt → Got
  | 32 :: t => if t.length < key.length ∨ great (t.take key.length) ≠ key then .error 160 else
      let q := Lib.cut (Lib.trimLeftB (t.drop key.length) 32) [32]
      if (Ad.pathP q.1).2 ≠ 0 ∨ q.1 = [60, 62] ∧ rcpt = true then .error 160 else match parR rcpt (q.2.1.length + 1) q.2.2 q.2.1 false 0 with
        | none => .error 160
        | some (odd, n) => if odd = true then .error 1 else .ok (q.1.tail.dropLast, [], n)
  | _ => .error 160
def readR (k : Nat) (key w rest : Bt) : Got := match k with
  | 0 => oneR rest
  | 1 => nothingR rest
  | 2 => authR rest
  | _ => pathR key (w == [82, 67, 80, 84]) rest
def wordOf (l : Bt) : Bt := great (l.takeWhile isAl)
def restOf (l : Bt) : Bt := Lib.trimRightB (l.dropWhile isAl) 32
def parseS (l : Bt) : Cmd × Int := match formK (wordOf l) with
  | none => (zero, 161)
  | some (key, k) => if restOf l ≠ [] ∧ (restOf l).head? ≠ some 32 then (zero, 161) else match readR k key (wordOf l) (restOf l) with
    | .error x => (zero, x)
    | .ok (p, a, n) => ((wordOf l, p, a, n), 0)
/-- Who somebody says to be: of the bytes. -/
def plainR (b : Bt) : Option (Bt × Bt) := match Spl.splitL 0 b with
  | [_, u, p] => some (u, p)
  | _ => none

theorem sh1 : parseS [109, 97, 105, 108, 32, 70, 82, 79, 77, 58, 60, 97, 64, 98, 62, 32, 115, 105, 122, 101, 61, 57] = (([77, 65, 73, 76], [97, 64, 98], [], 9), 0) := by decide +kernel
theorem sh2 : parseS [82, 67, 80, 84, 32, 84, 79, 58, 32, 60, 97, 64, 98, 62] = (([82, 67, 80, 84], [97, 64, 98], [], 0), 0) := by decide +kernel
theorem sh3 : parseS [82, 67, 80, 84, 32, 84, 79, 58, 60, 62] = (zero, 160) := by decide +kernel
theorem sh4 : parseS [82, 67, 80, 84, 32, 84, 79, 58, 60, 97, 64, 98, 62, 32, 88] = (zero, 1) := by decide +kernel
theorem sh5 : parseS [81, 85, 73, 84, 32, 110, 111, 119] = (zero, 160) := by decide +kernel
theorem sh6 : parseS [68, 65, 84, 65, 59] = (zero, 161) := by decide +kernel

/-! Great and small letters. -/
theorem takeWhile_len {q : UInt8 → Bool} : ∀ {l l' : Bt}, l.map q = l'.map q → (l.takeWhile q).length = (l'.takeWhile q).length
  | [], [], _ => rfl
  | [], c :: l', h => by simp at h
  | c :: l, [], h => by simp at h
  | c :: l, c' :: l', h => by
    simp only [List.map_cons, List.cons.injEq] at h
    have ih := takeWhile_len h.2
    cases hc : q c with
    | true => rw [List.takeWhile_cons_of_pos hc, List.takeWhile_cons_of_pos (by rw [← h.1]; exact hc)]; simp [ih]
    | false => rw [List.takeWhile_cons_of_neg (by simp [hc]), List.takeWhile_cons_of_neg (by rw [← h.1]; simp [hc])]
theorem forms_len : ∀ p ∈ forms, p.1.length = 4 := by decide
theorem formK_len {w : Bt} (h : w.length ≠ 4) : formK w = none := by
  unfold formK
  rw [List.find?_eq_none.2]
  · rfl
  · intro p hp he
    exact h (by rw [← beq_iff_eq.1 he]; exact forms_len p hp)
theorem parse_short {l : Bt} (h : (l.takeWhile isAl).length ≠ 4) : parseS l = (zero, 161) := by
  unfold parseS
  rw [formK_len]
  unfold wordOf great
  simpa using h
/-- A turning of letters that the words do not see. -/
structure Turns (g : UInt8 → UInt8) : Prop where
  al : ∀ c, isAl (g c) = isAl c
  gr : ∀ c, moveB 97 65 (g c) = moveB 97 65 c
theorem turn_all : (List.range 256).all (fun n => (isAl (moveB 65 97 (UInt8.ofNat n)) == isAl (UInt8.ofNat n)) && (moveB 97 65 (moveB 65 97 (UInt8.ofNat n)) == moveB 97 65 (UInt8.ofNat n)) && (isAl (moveB 97 65 (UInt8.ofNat n)) == isAl (UInt8.ofNat n)) && (moveB 97 65 (moveB 97 65 (UInt8.ofNat n)) == moveB 97 65 (UInt8.ofNat n))) = true := by decide +kernel
theorem turn_byte (c : UInt8) : (isAl (moveB 65 97 c) = isAl c ∧ moveB 97 65 (moveB 65 97 c) = moveB 97 65 c) ∧ (isAl (moveB 97 65 c) = isAl c ∧ moveB 97 65 (moveB 97 65 c) = moveB 97 65 c) := by
  have h := List.all_eq_true.1 turn_all c.toNat (List.mem_range.2 c.toNat_lt)
  rw [UInt8.ofNat_toNat] at h
  simp only [Bool.and_eq_true, beq_iff_eq] at h
  exact ⟨⟨h.1.1.1, h.1.1.2⟩, h.1.2, h.2⟩
theorem small_turns : Turns (moveB 65 97) := ⟨fun c => (turn_byte c).1.1, fun c => (turn_byte c).1.2⟩
theorem great_turns : Turns (moveB 97 65) := ⟨fun c => (turn_byte c).2.1, fun c => (turn_byte c).2.2⟩
theorem take_four {l : Bt} (h : (l.takeWhile isAl).length = 4) : l = l.takeWhile isAl ++ l.drop 4 ∧ ∀ c ∈ l.takeWhile isAl, isAl c = true := by
  refine ⟨?_, fun c hc => List.all_eq_true.1 (List.all_takeWhile) c hc⟩
  have h1 := List.takeWhile_append_dropWhile (p := isAl) (l := l)
  have h2 : l.drop 4 = l.dropWhile isAl := by
    conv => lhs; rw [← h1]
    rw [← h, List.drop_left]
  rw [h2, h1]
theorem word_app {x r : Bt} (hx : ∀ c ∈ x, isAl c = true) : (x ++ r).takeWhile isAl = x ++ r.takeWhile isAl ∧ (x ++ r).dropWhile isAl = r.dropWhile isAl := by
  induction x with
  | nil => exact ⟨rfl, rfl⟩
  | cons c x ih =>
    have hc := hx c (by simp)
    have ih := ih fun d hd => hx d (by simp [hd])
    rw [List.cons_append, List.takeWhile_cons_of_pos hc, List.dropWhile_cons_of_pos hc, ih.1, ih.2]
    exact ⟨rfl, rfl⟩
theorem parse_turned {g : UInt8 → UInt8} (hg : Turns g) (l : Bt) (n : Nat) (hn : n = min 4 l.length) : parseS ((l.take n).map g ++ l.drop n) = parseS l := by
  have hmap : ((l.take n).map g ++ l.drop n).map isAl = l.map isAl := by
    conv => rhs; rw [← List.take_append_drop n l]
    rw [List.map_append, List.map_append, List.map_map]
    congr 1
    exact List.map_congr_left fun c _ => hg.al c
  have hlen := takeWhile_len hmap
  by_cases h4 : (l.takeWhile isAl).length < 4
  · rw [parse_short (by omega), parse_short (by omega)]
  · have hl : 4 ≤ l.length := Nat.le_trans (Nat.le_of_not_lt h4) (List.takeWhile_prefix isAl).length_le
    have hn4 : n = 4 := by omega
    subst hn4
    have hall : ∀ c ∈ l.take 4, isAl c = true := by
      intro c hc
      have hp : l.take 4 <+: l.takeWhile isAl := List.prefix_of_prefix_length_le (List.take_prefix 4 l) (List.takeWhile_prefix isAl) (by simp; omega)
      exact List.all_eq_true.1 List.all_takeWhile c (hp.subset hc)
    have hall2 : ∀ c ∈ (l.take 4).map g, isAl c = true := by
      intro c hc
      obtain ⟨d, hd, rfl⟩ := List.mem_map.1 hc
      rw [hg.al]; exact hall d hd
    have hw1 := word_app (r := l.drop 4) hall
    have hw2 := word_app (r := l.drop 4) hall2
    rw [List.take_append_drop] at hw1
    have e1 : wordOf ((l.take 4).map g ++ l.drop 4) = wordOf l := by
      unfold wordOf great
      rw [hw1.1, hw2.1, List.map_append, List.map_append, List.map_map]
      congr 1
      exact List.map_congr_left fun c _ => hg.gr c
    have e2 : restOf ((l.take 4).map g ++ l.drop 4) = restOf l := by
      unfold restOf
      rw [hw1.2, hw2.2]
    unfold parseS
    rw [e1, e2]

/-! Blanks behind it all. -/
theorem trim_more (x : Bt) : ∀ k : Nat, Lib.trimRightB (x ++ List.replicate k 32) 32 = Lib.trimRightB x 32
  | 0 => by simp
  | k + 1 => by
    rw [List.replicate_succ', ← List.append_assoc, ← trim_more x k]
    unfold Lib.trimRightB
    rw [List.reverse_append, List.reverse_singleton, List.singleton_append, List.dropWhile_cons_of_pos (by rfl)]
theorem sp_all : isAl 32 = false := by decide
theorem sp_take (k : Nat) : (List.replicate k (32 : UInt8)).takeWhile isAl = [] ∧ (List.replicate k (32 : UInt8)).dropWhile isAl = List.replicate k 32 := by
  cases k with
  | zero => exact ⟨rfl, rfl⟩
  | succ k => rw [List.replicate_succ, List.takeWhile_cons_of_neg (by simp [sp_all]), List.dropWhile_cons_of_neg (by simp [sp_all])]; exact ⟨rfl, rfl⟩
theorem sp_word (k : Nat) : ∀ l : Bt, (l ++ List.replicate k 32).takeWhile isAl = l.takeWhile isAl ∧ (l ++ List.replicate k 32).dropWhile isAl = l.dropWhile isAl ++ List.replicate k 32
  | [] => by simpa using sp_take k
  | c :: l => by
    have ih := sp_word k l
    cases hc : isAl c with
    | true => rw [List.cons_append, List.takeWhile_cons_of_pos hc, List.takeWhile_cons_of_pos hc, List.dropWhile_cons_of_pos hc, List.dropWhile_cons_of_pos hc, ih.1, ih.2]; exact ⟨rfl, rfl⟩
    | false => rw [List.cons_append, List.takeWhile_cons_of_neg (by simp [hc]), List.takeWhile_cons_of_neg (by simp [hc]), List.dropWhile_cons_of_neg (by simp [hc]), List.dropWhile_cons_of_neg (by simp [hc])]; exact ⟨rfl, rfl⟩
theorem parse_blanks (l : Bt) (k : Nat) : parseS (l ++ List.replicate k 32) = parseS l := by
  have h := sp_word k l
  have e1 : wordOf (l ++ List.replicate k 32) = wordOf l := by unfold wordOf; rw [h.1]
  have e2 : restOf (l ++ List.replicate k 32) = restOf l := by unfold restOf; rw [h.2, trim_more]
  unfold parseS
  rw [e1, e2]

end Go.Proofs.YtdbggicpcbecdaaGreatDoor.Sm
