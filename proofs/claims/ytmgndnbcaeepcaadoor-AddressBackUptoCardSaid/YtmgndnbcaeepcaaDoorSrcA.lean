/-
  Rows of addresses that are read; an append of one in a drawn region.
-/
import Derived.Test.YtmgndnbcaeepcaaDoorList
import Derived.Deep.AppendLies
namespace Go.Proofs.YtmgndnbcaeepcaaDoor
open Go.RowKit Own Ad
set_option linter.unusedVariables false
set_option linter.unusedSimpArgs false

/-- A row of addresses that is read only: three cells each. -/
def SrcA (w : World) (A : Option Addr) (l : List Ad) : Prop :=
  (A = none → l = []) ∧ ∀ p, A = some p → ∀ j r, l[j]? = some r → w.cell? (p.add (j * 3)) = some (.string (str r.1)) ∧ w.cell? (p.add (j * 3 + 1)) = some (.string (str r.2.1)) ∧ w.cell? (p.add (j * 3 + 2)) = some (.string (str r.2.2))
theorem SrcA.below {w w' : World} {A : Option Addr} {l : List Ad} (h : SrcA w A l) (hb : Below w.heap.size w w') : SrcA w' A l :=
  ⟨h.1, fun p hp j r hr => by
    obtain ⟨h1, h2, h3⟩ := h.2 p hp j r hr
    exact ⟨(hb.cell (World.block_lt_of_cell? w _ h1)).trans h1, (hb.cell (World.block_lt_of_cell? w _ h2)).trans h2, (hb.cell (World.block_lt_of_cell? w _ h3)).trans h3⟩⟩
theorem spot_of {w : World} {p : Addr} {v : Value} (h : w.cell? p = some v) : p.spot = none := by
  unfold World.cell? at h
  split at h
  · split at h
    · cases h
    · rename_i hs
      cases hp : p.spot with
      | none => rfl
      | some x => rw [hp] at hs; simp at hs
  · cases h
theorem srcA_some {w : World} {A : Option Addr} {l : List Ad} (h : SrcA w A l) (hne : l ≠ []) : ∃ b o, A = some ⟨b, o, none⟩ := by
  cases A with
  | none => exact absurd (h.1 rfl) hne
  | some p =>
    cases l with
    | nil => exact absurd rfl hne
    | cons r l =>
      have h1 := (h.2 p rfl 0 r rfl).1
      rw [Nat.zero_mul] at h1
      have h2 := spot_of h1
      obtain ⟨b, o, s⟩ := p
      have : s = none := h2
      exact ⟨b, o, by rw [this]⟩
theorem SrcA.at_ {w : World} {b o : Nat} {l : List Ad} (h : SrcA w (some ⟨b, o, none⟩) l) {j : Nat} {n x y : List UInt8} (hr : l[j]? = some (n, x, y)) :
    w.cell? ⟨b, o + j * 3, none⟩ = some (.string (str n)) ∧ w.cell? ⟨b, o + j * 3 + 1, none⟩ = some (.string (str x)) ∧ w.cell? ⟨b, o + j * 3 + 2, none⟩ = some (.string (str y)) := by
  obtain ⟨h1, h2, h3⟩ := h.2 _ rfl j _ hr
  rw [Addr.add_lit] at h1 h2 h3
  exact ⟨h1, by rw [← Nat.add_assoc] at h2; exact h2, by rw [← Nat.add_assoc] at h3; exact h3⟩
theorem ABuf.src {B : Nat} {w : World} {v : Value} {l : List Ad} (h : ABuf B w v l) : ∃ A c, v = .slice A l.length c ∧ l.length ≤ c ∧ SrcA w A l := by
  obtain ⟨A, c, rfl, hc, h1, h2⟩ := h.full
  refine ⟨A, c, rfl, hc, h1, fun p hp j r hr => ?_⟩
  obtain ⟨g, rfl, hcell⟩ := h2 p hp
  obtain ⟨k0, k1, k2⟩ := hcell j r hr
  rw [Addr.add_lit, Addr.add_lit, Addr.add_lit, Nat.zero_add, Nat.zero_add, Nat.zero_add]
  exact ⟨k0, k1, k2⟩

/-- append(v, a) of one address: a step of a region that draws its order. -/
theorem step_abuf {ops : Array Oper} {o : Oper} {a : Act} {K : Act → World → Prop} {Q : Exit → Act → World → Prop} {E : Prop} (B : Nat) (w : World) (hgd : o.guard = none) (s x : Operand)
    (ho : o.op = .call { callee := .builtin .append, args := #[s, x], argTypes := #[26, 26] }) (v : Value) (l : List Ad) (r : Ad) (hs : a.eval s = v) (hbuf : ABuf B w v l)
    (ad : Addr) (c : Nat) (hx : a.eval x = .slice (some ad) 1 c) (hnews : ∀ j u, (av [r])[j]? = some u → w.cell? (ad.add j) = some u) (hlen : l.length ≤ 1000000000)
    (h : ∀ v' w', ABuf B w' v' (l ++ [r]) → Below B w w' → K (a.put o.dst v') w') : if Region.wanted o (yielded ops a.tmps) = true then Oper.wp Tryd.prog o a w K Q else E := by
  obtain ⟨i, hi, hz, hsize, hby⟩ := info_parts info_addr
  refine step_append_lies w hgd s x 26 ho B 31 i _ 3 48 Tryd.underlying26 hi hz hsize hby rfl (by decide) v l.length (av l) hs hbuf.1 ad 1 c (av [r]) hx rfl hnews (av_one [r]) (by decide) (by unfold maxLen; omega) (by omega) hbuf.2 _ rfl ?_
  intro g cap w' h2 h3 _ _
  refine h _ w' ⟨?_, Nat.le_trans hbuf.2 h3.size⟩ ⟨h3.os, h3.tape, h3.output, h3.size, fun k hk => h3.block k (by have := hbuf.2; omega) (fun e => by have := (hbuf.1.lt k e.symm).1; omega)⟩
  rw [av_append, List.length_append]
  exact h2

end Go.Proofs.YtmgndnbcaeepcaaDoor
