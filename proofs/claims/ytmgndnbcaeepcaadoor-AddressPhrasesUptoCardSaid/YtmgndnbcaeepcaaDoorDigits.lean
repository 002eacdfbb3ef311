/-
  Numbers as texts: the reference's Digits; bytes into a text.
-/
import Derived.Test.YtmgndnbcaeepcaaDoorProg
import Derived.Test.YtmgndnbcaeepcaaDoorOwn
import Derived.Test.YtmgndnbcaeepcaaDoorText
import Derived.WalkKit
import Derived.WalkSpells
import Derived.WalkLawsBesides
import Derived.LoopTactic
import Derived.Lib.Bytes
import Derived.Laws.BytesString
namespace Go.Proofs.YtmgndnbcaeepcaaDoor
open Go.RowKit Own
set_option linter.unusedVariables false
set_option linter.unusedSimpArgs false

/-- A text of these bytes. -/
def str (l : List UInt8) : ByteArray := ⟨l.toArray⟩
theorem str_append (a b : List UInt8) : str a ++ str b = str (a ++ b) := by
  apply ByteArray.ext
  simp [str, ByteArray.data_append]
theorem str_size (l : List UInt8) : (str l).size = l.length := by simp [str, ByteArray.size]
theorem str_list (s : ByteArray) : ∃ l, s = str l := ⟨s.data.toList, by simp [str]⟩
theorem str_inj {a b : List UInt8} (h : str a = str b) : a = b := by
  have := congrArg (fun s => s.data.toList) h
  simpa [str] using this

/-- The bytes as cells, as numbers. -/
def bv (l : List UInt8) : List Value := l.map fun b => .int .u8 b.toNat
theorem bv_len (l : List UInt8) : (bv l).length = l.length := by simp [bv]
theorem bv_append (l m : List UInt8) : bv (l ++ m) = bv l ++ bv m := by simp [bv]
theorem bv_take (l : List UInt8) (n : Nat) : bv (l.take n) = (bv l).take n := by simp [bv]
theorem bv_drop (l : List UInt8) (n : Nat) : bv (l.drop n) = (bv l).drop n := by simp [bv]
theorem bv_one (l : List UInt8) : ∀ u ∈ bv l, u.oneCell' = true := by
  intro u hu
  simp [bv] at hu
  obtain ⟨b, _, rfl⟩ := hu
  rfl
def nums (l : List UInt8) : List Int := l.map fun b => (b.toNat : Int)
theorem bytesOf_nums (l : List UInt8) : Lib.bytesOf (nums l) = l := by
  simp [Lib.bytesOf, nums, Function.comp_def]
theorem nums_len (l : List UInt8) : (nums l).length = l.length := by simp [nums]
theorem nums_byte (l : List UInt8) : ∀ x ∈ nums l, 0 ≤ x ∧ x < 256 := by
  intro x hx
  simp [nums] at hx
  obtain ⟨b, _, rfl⟩ := hx
  have := b.toNat_lt
  omega
theorem bv_get (l : List UInt8) (i : Nat) (h : i < l.length) : (bv l)[i]? = some (.int .u8 ((nums l).getD i 0)) := by
  simp [bv, nums, h]

/-- A literal's row, as it lies. -/
theorem src_lit (w : World) (cs : Array Value) (e : TypeId) (fr : Nat × Nat) : Src (w.alloc (.cells cs e fr)) (some ⟨w.heap.size, 0, none⟩) cs.toList := by
  refine ⟨fun h => by simp at h, fun p hp j u hu => ?_⟩
  simp at hp
  subst hp
  have hh := heap_alloc_new w (.cells cs e fr)
  rw [Addr.add_lit, cells_at hh, Nat.zero_add]
  simpa using hu

/-- string(b). -/
theorem conv_src {w : World} {A : Option Addr} {out : List UInt8} (h : Src w A (bv out)) (n c : Nat) (hn : n = out.length) : (convert 25 9 (.slice A n c)).run Tryd.prog w = .ok (.string (str out)) w := by
  subst hn
  cases A with
  | none =>
    have ho : out = [] := by simpa [bv] using h.1 rfl
    subst ho
    exact run_convert_bytes_nil w 25 5 Tryd.underlying25 Tryd.underlying5 0 c 9 Tryd.underlying9
  | some ad =>
    have hl : (loadCells ad out.length).run Tryd.prog w = .ok ((nums out).map (Value.int .u8)).toArray w := by
      have := run_loadCells_list (P := Tryd.prog) w ad (bv out) (fun j v hj => h.2 ad rfl j v hj)
      rw [bv_len] at this
      rw [this]
      simp [bv, nums, Function.comp_def]
    rw [run_convert_bytes_string w 25 9 5 _ _ c Tryd.underlying25 Tryd.underlying5 Tryd.underlying9, run_bytesToString w ad _ c (nums out) hl, foldl_push_bytes]
    simp [nums, str, ByteArray.empty, ByteArray.emptyWithCapacity, Function.comp_def]
    rfl

/-- string([]byte{c}). -/
theorem conv_one (w : World) (c : UInt8) (x : Int) (hx : x = (c.toNat : Int)) : (convert 25 9 (.slice (some ⟨w.heap.size, 0, none⟩) 1 1)).run Tryd.prog (w.alloc (.cells #[.int .u8 x] 5)) = .ok (.string (str [c])) (w.alloc (.cells #[.int .u8 x] 5)) := by
  subst hx
  exact conv_src (out := [c]) (src_lit w #[.int .u8 c.toNat] 5 (0, 0)) 1 1 rfl


end Go.Proofs.YtmgndnbcaeepcaaDoor
