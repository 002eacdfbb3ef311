/-
  Numbers as texts: the reference's Digits; bytes into a text.
-/
import Derived.Test.YtdbggicpcbecdaaGreatDoorProg
import Derived.Test.YtdbggicpcbecdaaGreatDoorOwn
import Derived.Test.YtdbggicpcbecdaaGreatDoorText
import Derived.WalkKit
import Derived.WalkSpells
import Derived.WalkLawsBesides
import Derived.LoopTactic
import Derived.Lib.Bytes
import Derived.Laws.BytesString
namespace Go.Proofs.YtdbggicpcbecdaaGreatDoor
open Go.RowKit Own
set_option linter.unusedVariables false
set_option linter.unusedSimpArgs false

/-- A text of these bytes. -/
def str (l : List UInt8) : ByteArray := ⟨l.toArray⟩
theorem str_append (a b : List UInt8) : str a ++ str b = str (a ++ b) := by
  apply ByteArray.ext
  simp [str, ByteArray.data_append]
theorem str_size (l : List UInt8) : (str l).size = l.length := by simp [str, ByteArray.size]
theorem str_list (s : ByteArray) : ∃ l, s = str l := ⟨s.data.toList, by simp [str]⟩
theorem str_inj {a b : List UInt8} (h : str a = str b) : a = b := by
  have := congrArg (fun s => s.data.toList) h
  simpa [str] using this

/-- The bytes as cells, as numbers. -/
def bv (l : List UInt8) : List Value := l.map fun b => .int .u8 b.toNat
theorem bv_len (l : List UInt8) : (bv l).length = l.length := by simp [bv]
theorem bv_append (l m : List UInt8) : bv (l ++ m) = bv l ++ bv m := by simp [bv]
theorem bv_take (l : List UInt8) (n : Nat) : bv (l.take n) = (bv l).take n := by simp [bv]
theorem bv_drop (l : List UInt8) (n : Nat) : bv (l.drop n) = (bv l).drop n := by simp [bv]
theorem bv_one (l : List UInt8) : ∀ u ∈ bv l, u.oneCell' = true := by
  intro u hu
  simp [bv] at hu
  obtain ⟨b, _, rfl⟩ := hu
  rfl
def nums (l : List UInt8) : List Int := l.map fun b => (b.toNat : Int)
theorem bytesOf_nums (l : List UInt8) : Lib.bytesOf (nums l) = l := by
  simp [Lib.bytesOf, nums, Function.comp_def]
theorem nums_len (l : List UInt8) : (nums l).length = l.length := by simp [nums]
theorem nums_byte (l : List UInt8) : ∀ x ∈ nums l, 0 ≤ x ∧ x < 256 := by
  intro x hx
  simp [nums] at hx
  obtain ⟨b, _, rfl⟩ := hx
  have := b.toNat_lt
  omega
theorem bv_get (l : List UInt8) (i : Nat) (h : i < l.length) : (bv l)[i]? = some (.int .u8 ((nums l).getD i 0)) := by
  simp [bv, nums, h]

/-- A literal's row, as it lies. -/
theorem src_lit (w : World) (cs : Array Value) (e : TypeId) (fr : Nat × Nat) : Src (w.alloc (.cells cs e fr)) (some ⟨w.heap.size, 0, none⟩) cs.toList := by
  refine ⟨fun h => by simp at h, fun p hp j u hu => ?_⟩
  simp at hp
  subst hp
  have hh := heap_alloc_new w (.cells cs e fr)
  rw [Addr.add_lit, cells_at hh, Nat.zero_add]
  simpa using hu

/-- string(b). -/
theorem conv_src {w : World} {A : Option Addr} {out : List UInt8} (h : Src w A (bv out)) (n c : Nat) (hn : n = out.length) : (convert 33 9 (.slice A n c)).run Tryz.prog w = .ok (.string (str out)) w := by
  subst hn
  cases A with
  | none =>
    have ho : out = [] := by simpa [bv] using h.1 rfl
    subst ho
    exact run_convert_bytes_nil w 33 5 Tryz.underlying33 Tryz.underlying5 0 c 9 Tryz.underlying9
  | some ad =>
    have hl : (loadCells ad out.length).run Tryz.prog w = .ok ((nums out).map (Value.int .u8)).toArray w := by
      have := run_loadCells_list (P := Tryz.prog) w ad (bv out) (fun j v hj => h.2 ad rfl j v hj)
      rw [bv_len] at this
      rw [this]
      simp [bv, nums, Function.comp_def]
    rw [run_convert_bytes_string w 33 9 5 _ _ c Tryz.underlying33 Tryz.underlying5 Tryz.underlying9, run_bytesToString w ad _ c (nums out) hl, foldl_push_bytes]
    simp [nums, str, ByteArray.empty, ByteArray.emptyWithCapacity, Function.comp_def]
    rfl

/-- string([]byte{c}). -/
theorem conv_one (w : World) (c : UInt8) (x : Int) (hx : x = (c.toNat : Int)) : (convert 33 9 (.slice (some ⟨w.heap.size, 0, none⟩) 1 1)).run Tryz.prog (w.alloc (.cells #[.int .u8 x] 5)) = .ok (.string (str [c])) (w.alloc (.cells #[.int .u8 x] 5)) := by
  subst hx
  exact conv_src (out := [c]) (src_lit w #[.int .u8 c.toNat] 5 (0, 0)) 1 1 rfl

theorem pow_le {k n : Nat} (h : 10 ^ k ≤ n) (hn : n ≤ 9223372036854775807) : k ≤ 18 := by
  rcases Nat.lt_or_ge 18 k with c | c
  · have := Nat.pow_le_pow_right (show 0 < 10 by omega) (show 19 ≤ k by omega)
    omega
  · exact c

theorem digits_any (n : Nat) (w : World) (hn : n ≤ 9223372036854775807) :
    Calls Tryz.prog 13 #[.int .i64 n] w fun e w' => e = .returned (.string (str (Text.digs n))) ∧ Below w.heap.size w w' := by
  go_enter Tryz.func13, Tryz.ntmps13
  go_wp2_with fail
  go_loopw [0, 3] (fun v0 v3 wr => ∃ k : Nat, v0 = .int .i64 ((n / 10 ^ k : Nat) : Int) ∧ v3 = .string (str (Text.lastL k n)) ∧ (10 ^ k ≤ n ∨ k = 0) ∧ k ≤ 25 ∧ Below w.heap.size w wr) (fun v0 _ _ => (intOf v0).toNat)
  case atStart => exact ⟨0, by simp, rfl, .inr rfl, by omega, Below.refl _ _⟩
  case round =>
    obtain ⟨k, rfl, rfl, hk, hk2, hbel⟩ := hrel
    obtain ⟨m, hm⟩ : ∃ m, m = n / 10 ^ k := ⟨_, rfl⟩
    have hmn : m ≤ n := by rw [hm]; exact Nat.div_le_self _ _
    have hl := Text.lastL_len k n
    have hsz := str_size (Text.lastL k n)
    rw [hl] at hsz
    rw [← hm]
    have HM := hid hm
    have HSZ := hid hsz
    have hs2 : (str (Text.lastL k n)).size ≤ 25 := by omega
    clear hm hl hsz
    by_cases h9 : 9 < m
    · have e1 : decide ((9 : Int) < m) = true := decide_eq_true (by omega)
      have cv := conv_one wr (Text.dg m) (48 + (m : Int) % 10) (by rw [Text.dg_nat]; omega)
      have ht : str [Text.dg m] ++ str (Text.lastL k n) = str (Text.lastL (k + 1) n) := by rw [str_append, HM.out]; rfl
      have hs3 : (str [Text.dg m]).size ≤ 1 := by rw [str_size]; simp
      have hp : 10 ^ (k + 1) ≤ n := by
        have h1 := Nat.div_add_mod n (10 ^ k)
        rw [← HM.out] at h1
        rw [Nat.pow_succ]
        have h2 : 10 ^ k * 10 ≤ 10 ^ k * m := Nat.mul_le_mul_left _ (by omega)
        omega
      have hk3 := pow_le hp hn
      have HP := hid hp
      have HT := hid ht
      clear hp
      go_wp2
      go_roundw
      case rel => exact ⟨k + 1, by rw [Nat.pow_succ, ← Nat.div_div_eq_div_mul, ← HM.out]; go_num, rfl, .inl HP.out, by omega, hbel.alloc hbel.size _⟩
      case measure => simp [intOf]; omega
    · have e1 : decide ((9 : Int) < m) = false := decide_eq_false (by omega)
      have cv := conv_one wr (Text.dg m) (48 + (m : Int)) (by rw [Text.dg_nat]; omega)
      have hs3 : (str [Text.dg m]).size ≤ 1 := by rw [str_size]; simp
      have ht : str [Text.dg m] ++ str (Text.lastL k n) = str (Text.digs n) := by
        rw [str_append, Text.digs_last n k hk, ← HM.out, Text.digs_small (by omega)]
      go_wp2
      go_ret
      exact ⟨rfl, hbel.alloc hbel.size _⟩

end Go.Proofs.YtdbggicpcbecdaaGreatDoor
