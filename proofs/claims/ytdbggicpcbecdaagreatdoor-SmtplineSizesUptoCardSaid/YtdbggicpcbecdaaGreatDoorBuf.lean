/-
  A row of bytes of one's own that grows by append.
-/
import Derived.Test.YtdbggicpcbecdaaGreatDoorProg
import Derived.Test.YtdbggicpcbecdaaGreatDoorOwn
import Derived.Test.YtdbggicpcbecdaaGreatDoorDigits
import Derived.Test.YtdbggicpcbecdaaGreatDoorHeld
namespace Go.Proofs.YtdbggicpcbecdaaGreatDoor
open Go.RowKit Own
set_option linter.unusedVariables false
set_option linter.unusedSimpArgs false

theorem info_byte : (Tryz.prog.info? 5).map (fun i => (i.zero, i.size, i.bytes)) = some (some (.int .u8 0), 1, 1) := by kernel_rfl

/-- v is a row of these bytes, in memory made behind B. -/
def Buf (B : Nat) (w : World) (v : Value) (bs : List UInt8) : Prop := Row 5 (fun k => B ≤ k) w v (bv bs) ∧ B ≤ w.heap.size

theorem Buf.nil {B : Nat} {w : World} (h : B ≤ w.heap.size) : Buf B w (.slice none 0 0) [] := ⟨Row.nil _ _ _, h⟩
theorem Buf.alloc {B : Nat} {w : World} {v : Value} {bs : List UInt8} (h : Buf B w v bs) (o : Obj) : Buf B (w.alloc o) v bs := ⟨h.1.fr (Fr.alloc (fun _ => False) w o) (fun _ _ h => h), by have := h.2; simp; omega⟩
theorem Buf.drewN {B : Nat} {w : World} {v : Value} {bs : List UInt8} (h : Buf B w v bs) (n : Nat) : Buf B (w.drewN n) v bs := ⟨h.1.fr (Fr.drewN (fun _ => False) w n) (fun _ _ h => h), h.2⟩
theorem Buf.drew {B : Nat} {w : World} {v : Value} {bs : List UInt8} (h : Buf B w v bs) : Buf B w.drew v bs := ⟨h.1.fr (Fr.drew (fun _ => False) w) (fun _ _ h => h), h.2⟩
theorem Buf.keep {B : Nat} {w w' : World} {v : Value} {bs : List UInt8} (h : Buf B w v bs) (hb : Below w.heap.size w w') : Buf B w' v bs := by
  refine ⟨⟨⟨h.1.1.1, ?_⟩, h.1.2⟩, Nat.le_trans h.2 hb.size⟩
  rcases h.1.1.2 with hn | ⟨g, cap, cur, rfl, hb2, hg, rest⟩
  · exact .inl hn
  · exact .inr ⟨g, cap, cur, rfl, hb2, (hb.block g (lt_of_block hg)).trans hg, rest⟩
theorem Buf.slice {B : Nat} {w : World} {v : Value} {bs : List UInt8} (h : Buf B w v bs) : ∃ A c, v = .slice A bs.length c ∧ Src w A (bv bs) := by
  obtain ⟨A, c, he, _⟩ := h.1.slice
  rw [bv_len] at he
  subst he
  exact ⟨A, c, rfl, h.1.src⟩
/-- A literal of bytes. -/
theorem Buf.lit (w : World) (bs : List UInt8) (hl : bs.length ≤ 1000000) : Buf w.heap.size (w.alloc (.cells (bv bs).toArray 5 (0, 0))) (.slice (some ⟨w.heap.size, 0, none⟩) bs.length bs.length) bs := by
  refine ⟨⟨⟨?_, .inr ⟨w.heap.size, bs.length, (bv bs).toArray, ?_, Nat.zero_le _, heap_alloc_new w _, ?_, ?_, ?_, ?_⟩⟩, fun k hk => ?_⟩, by simp⟩
  · simp
  · simp [bv_len]
  · simp [bv_len]
  · unfold maxLen; omega
  · simp [bv_len]
  · simp [bv_len]; exact List.take_of_length_le (by rw [bv_len]; exact Nat.le_refl _)
  · simp [Value.ownBlock] at hk; omega

theorem one_src (w : World) (c : UInt8) (x : Int) (hx : x = (c.toNat : Int)) : Src (w.alloc (.cells #[.int .u8 x] 5)) (some ⟨w.heap.size, 0, none⟩) (bv [c]) := by
  subst hx
  exact src_lit w #[.int .u8 c.toNat] 5 (0, 0)

/-- append(v, y..): a step of the walk. -/
theorem wpList_buf {ops : Array Oper} {rest : List Oper} {o : Oper} {a : Act} {Q : Exit → Act → World → Prop} (B : Nat) (w : World) (hgd : o.guard = none) (s x : Operand)
    (ho : o.op = .call { callee := .builtin .append, args := #[s, x], argTypes := #[33, 33] }) (v : Value) (bs ys : List UInt8) (hs : a.eval s = v) (hbuf : Buf B w v bs)
    (A : Option Addr) (n c : Nat) (hx : a.eval x = .slice A n c) (hn : n = ys.length) (hsrc : Src w A (bv ys)) (hlen : bs.length + ys.length ≤ 70368744177664)
    (h : ∀ v' w', Buf B w' v' (bs ++ ys) → Below B w w' → wpList Tryz.prog ops Q rest (a.put o.dst v') w') : wpList Tryz.prog ops Q (o :: rest) a w := by
  refine wpList_append_row w hgd s x 33 5 ho (.int .u8 0) 1 Tryz.underlying33 info_byte rfl v (bv bs) (bv ys) hs hbuf.1 A n c hx (by rw [hn, bv_len]) hsrc (bv_one ys) (by rw [bv_len, bv_len]; omega) (by rw [bv_len, bv_len]; omega) ?_
  intro v' w' hr hf
  refine h v' w' ⟨?_, Nat.le_trans hbuf.2 hf.size⟩ (hf.below (fun k hk => hbuf.1.2 k hk) hbuf.2)
  rw [bv_append]
  exact hr.mono fun k hk => by
    rcases hk with h1 | ⟨h1, _⟩
    · exact h1
    · have := hbuf.2; omega

/-- string(v). -/
theorem Buf.conv {B : Nat} {w : World} {A : Option Addr} {n c : Nat} {bs : List UInt8} (h : Buf B w (.slice A n c) bs) : (convert 33 9 (.slice A n c)).run Tryz.prog w = .ok (.string (str bs)) w := by
  obtain ⟨A', c', he, hs⟩ := h.slice
  obtain ⟨rfl, rfl, rfl⟩ : A = A' ∧ n = bs.length ∧ c = c' := by simpa using he
  exact conv_src hs bs.length c rfl

end Go.Proofs.YtdbggicpcbecdaaGreatDoor
