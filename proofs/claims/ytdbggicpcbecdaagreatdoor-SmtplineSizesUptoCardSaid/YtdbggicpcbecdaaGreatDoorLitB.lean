/-
  Rows of bytes: a text appended; a literal.
-/
import Derived.Test.YtdbggicpcbecdaaGreatDoorEnc
import Derived.Lib.AppendStr
import Derived.Lib.SlBytesConst
namespace Go.Proofs.YtdbggicpcbecdaaGreatDoor
open Go.RowKit Own Dec
set_option linter.unusedVariables false
set_option linter.unusedSimpArgs false
set_option maxRecDepth 100000

/-- append(v, s...) of a string: a step of the walk. -/
theorem wpList_buf_str {ops : Array Oper} {rest : List Oper} {o : Oper} {a : Act} {Q : Exit → Act → World → Prop} (B : Nat) (w : World) (hgd : o.guard = none) (s x : Operand)
    (ho : o.op = .call { callee := .builtin .append, args := #[s, x], argTypes := #[33, 9] }) (v : Value) (bs ys : List UInt8) (hs : a.eval s = v) (hbuf : Buf B w v bs)
    (S : ByteArray) (hS : S = str ys) (hx : a.eval x = .string S) (hlen : bs.length + ys.length ≤ 70368744177664)
    (h : ∀ v' w', Buf B w' v' (bs ++ ys) → Below B w w' → wpList Tryz.prog ops Q rest (a.put o.dst v') w') : wpList Tryz.prog ops Q (o :: rest) a w := by
  subst hS
  obtain ⟨i, hi, hz, hsize, hby⟩ := info_parts info_byte
  have hown : w.ownsRow B 5 1 v bs.length (bv bs) := by
    refine ⟨by rw [bv_len]; omega, ?_⟩
    rcases hbuf.1.1.2 with ⟨hv, hn⟩ | ⟨g, cap, cur, rfl, hb2, hg, h1, h2, h3, h4⟩
    · exact .inl ⟨hv, by rw [bv_len] at hn; exact hn⟩
    · rw [bv_len] at h1 h4
      exact .inr ⟨g, cap, cur, by rw [bv_len], hbuf.1.2 g rfl, hg, h1, h2, h3, h4⟩
  refine Lib.wpList_append_own_string w hgd s x 33 9 ho B 5 i Tryz.underlying33 Tryz.underlying9 hi hz hsize hby v bs.length (bv bs) hs hown (str ys) hx (by rw [str_size]; unfold maxLen; omega) (by rw [str_size]; omega) hbuf.2 ?_
  intro v' w' ho' hg' _
  have hsc : Lib.strCells (str ys) = bv ys := by simp [Lib.strCells, str, bv]
  rw [str_size, hsc, ← bv_append] at ho'
  have hbel : Below B w w' := ⟨hg'.os, hg'.tape, hg'.output, hg'.size, fun k hk => hg'.block k (by have := hbuf.2; omega) (fun e => by have := hbuf.1.2 k e.symm; omega)⟩
  refine h v' w' ⟨⟨⟨?_, ?_⟩, ?_⟩, Nat.le_trans hbuf.2 hg'.size⟩ hbel
  · rw [bv_len]; simp
  · rcases ho'.2 with ⟨hv, hn⟩ | ⟨g, cap, cur, rfl, hb2, hg, rest⟩
    · exact .inl ⟨hv, by rw [bv_len, List.length_append]; exact hn⟩
    · refine .inr ⟨g, cap, cur, by rw [bv_len, List.length_append], Nat.zero_le _, hg, ?_⟩
      rw [bv_len, List.length_append]
      exact rest
  · intro k hk
    rcases ho'.2 with ⟨rfl, hn⟩ | ⟨g, cap, cur, rfl, hb2, hg, rest⟩
    · simp [Value.ownBlock] at hk
    · simp [Value.ownBlock] at hk; omega

theorem lit_bytes (w : World) (bs : List UInt8) (cs : Array Value) (fr : Nat × Nat) (h : cs.toList = bv bs) : Src (w.alloc (.cells cs 5 fr)) (some ⟨w.heap.size, 0, none⟩) (bv bs) := h ▸ src_lit w cs 5 fr

theorem lit_at (w : World) (bs : List UInt8) (cs : Array Value) (fr : Nat × Nat) (n : Nat) (hn : n = w.heap.size) (h : cs.toList = bv bs) : Src (w.alloc (.cells cs 5 fr)) (some ⟨n, 0, none⟩) (bv bs) := hn ▸ lit_bytes w bs cs fr h

end Go.Proofs.YtdbggicpcbecdaaGreatDoor
