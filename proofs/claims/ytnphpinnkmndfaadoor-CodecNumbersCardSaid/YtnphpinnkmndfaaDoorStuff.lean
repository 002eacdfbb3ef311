/-
  The program's Stuff.
-/
import Derived.Test.YtnphpinnkmndfaaDoorEnc
import Derived.Test.YtnphpinnkmndfaaDoorRQuote
import Derived.Test.YtnphpinnkmndfaaDoorStuffLaw
import Derived.Lib.AppendStr
import Derived.Lib.SlBytesConst
namespace Go.Proofs.YtnphpinnkmndfaaDoor
open Go.RowKit Own Dec
set_option linter.unusedVariables false
set_option linter.unusedSimpArgs false
set_option maxRecDepth 100000

namespace Stf
theorem cut_index : ∀ l : List UInt8, (cut l = none ∧ Lib.index l [13, 10] = -1) ∨ ∃ a b, cut l = some (a, b) ∧ Lib.index l [13, 10] = a.length
  | [] => .inl ⟨rfl, rfl⟩
  | [c] => .inl ⟨rfl, by simp [Lib.index, List.isPrefixOf]⟩
  | c :: d :: l => by
    rw [cut_cons]
    unfold Lib.index
    by_cases hc : c = 13 ∧ d = 10
    · rw [if_pos hc]
      obtain ⟨rfl, rfl⟩ := hc
      exact .inr ⟨[], l, rfl, by simp⟩
    · rw [if_neg hc]
      have hp : ¬ (([13, 10] : List UInt8).isPrefixOf (c :: d :: l) = true) := by
        intro h
        simp [List.isPrefixOf] at h
        exact hc ⟨h.1.symm, h.2.symm⟩
      rw [if_neg hp]
      rcases cut_index (d :: l) with ⟨h1, h2⟩ | ⟨a, b, h1, h2⟩
      · rw [h1, h2]; exact .inl ⟨rfl, by simp⟩
      · rw [h1, h2]
        refine .inr ⟨c :: a, b, rfl, ?_⟩
        have hne : ((a.length : Int) == -1) = false := by rw [beq_eq_false_iff_ne]; omega
        rw [hne]
        simp
end Stf

/-- append(v, s...) of a string: a step of the walk. -/
theorem wpList_buf_str {ops : Array Oper} {rest : List Oper} {o : Oper} {a : Act} {Q : Exit → Act → World → Prop} (B : Nat) (w : World) (hgd : o.guard = none) (s x : Operand)
    (ho : o.op = .call { callee := .builtin .append, args := #[s, x], argTypes := #[22, 9] }) (v : Value) (bs ys : List UInt8) (hs : a.eval s = v) (hbuf : Buf B w v bs)
    (S : ByteArray) (hS : S = str ys) (hx : a.eval x = .string S) (hlen : bs.length + ys.length ≤ 70368744177664)
    (h : ∀ v' w', Buf B w' v' (bs ++ ys) → Below B w w' → wpList Tryd.prog ops Q rest (a.put o.dst v') w') : wpList Tryd.prog ops Q (o :: rest) a w := by
  subst hS
  obtain ⟨i, hi, hz, hsize, hby⟩ := info_parts info_byte
  have hown : w.ownsRow B 5 1 v bs.length (bv bs) := by
    refine ⟨by rw [bv_len]; omega, ?_⟩
    rcases hbuf.1.1.2 with ⟨hv, hn⟩ | ⟨g, cap, cur, rfl, hb2, hg, h1, h2, h3, h4⟩
    · exact .inl ⟨hv, by rw [bv_len] at hn; exact hn⟩
    · rw [bv_len] at h1 h4
      exact .inr ⟨g, cap, cur, by rw [bv_len], hbuf.1.2 g rfl, hg, h1, h2, h3, h4⟩
  refine Lib.wpList_append_own_string w hgd s x 22 9 ho B 5 i Tryd.underlying22 Tryd.underlying9 hi hz hsize hby v bs.length (bv bs) hs hown (str ys) hx (by rw [str_size]; unfold maxLen; omega) (by rw [str_size]; omega) hbuf.2 ?_
  intro v' w' ho' hg' _
  have hsc : Lib.strCells (str ys) = bv ys := by simp [Lib.strCells, str, bv]
  rw [str_size, hsc, ← bv_append] at ho'
  have hbel : Below B w w' := ⟨hg'.os, hg'.tape, hg'.output, hg'.size, fun k hk => hg'.block k (by have := hbuf.2; omega) (fun e => by have := hbuf.1.2 k e.symm; omega)⟩
  refine h v' w' ⟨⟨⟨?_, ?_⟩, ?_⟩, Nat.le_trans hbuf.2 hg'.size⟩ hbel
  · rw [bv_len]; simp
  · rcases ho'.2 with ⟨hv, hn⟩ | ⟨g, cap, cur, rfl, hb2, hg, rest⟩
    · exact .inl ⟨hv, by rw [bv_len, List.length_append]; exact hn⟩
    · refine .inr ⟨g, cap, cur, by rw [bv_len, List.length_append], Nat.zero_le _, hg, ?_⟩
      rw [bv_len, List.length_append]
      exact rest
  · intro k hk
    rcases ho'.2 with ⟨rfl, hn⟩ | ⟨g, cap, cur, rfl, hb2, hg, rest⟩
    · simp [Value.ownBlock] at hk
    · simp [Value.ownBlock] at hk; omega

theorem lit_bytes (w : World) (bs : List UInt8) (cs : Array Value) (fr : Nat × Nat) (h : cs.toList = bv bs) : Src (w.alloc (.cells cs 5 fr)) (some ⟨w.heap.size, 0, none⟩) (bv bs) := h ▸ src_lit w cs 5 fr

theorem lit_at (w : World) (bs : List UInt8) (cs : Array Value) (fr : Nat × Nat) (n : Nat) (hn : n = w.heap.size) (h : cs.toList = bv bs) : Src (w.alloc (.cells cs 5 fr)) (some ⟨n, 0, none⟩) (bv bs) := hn ▸ lit_bytes w bs cs fr h

theorem bytes_in {w : World} {p : Addr} {l : List UInt8} (hs : Src w (some p) (bv l)) : Lib.BytesIn w (some p) l.length (nums l) :=
  Lib.BytesIn.of_cells (fun i hi => hs.2 p rfl i _ (bv_get l i hi))
theorem nums_dot : nums [46] = [46] := rfl
theorem bcut_none (p p2 : Addr) (c1 c2 : Nat) (R : List UInt8) (w : World) (hG : GoodC w) (hR : Stf.cut R = none) (hs : Src w (some p) (bv R)) (hs2 : Src w (some p2) (bv [13, 10])) (hcap : R.length ≤ c1) (hl : R.length ≤ 2147483648) :
    Calls Tryd.prog 34 #[.slice (some p) R.length c1, .slice (some p2) 2 c2] w fun e w' => e = .returned (.tuple #[.slice (some p) R.length c1, .slice none 0 0, .bool false]) ∧ Below w.heap.size w w' := by
  obtain ⟨m, hm⟩ := hG.max
  refine (Tryd.bytes_Cut_all (some p) (some p2) R.length c1 2 c2 (nums R) (nums [13, 10]) m w (nums_len R) (nums_len [13, 10]) (nums_byte R) (nums_byte [13, 10]) (bytes_in hs) (bytes_in hs2) (fun h => by cases h) hcap (by omega) (by omega) hm).mono ?_
  rintro e w' ⟨rfl, q, rfl⟩
  refine ⟨?_, below_drewN w q⟩
  rw [bytesOf_nums, bytesOf_nums]
  rcases Stf.cut_index R with ⟨_, h2⟩ | ⟨a, b, h1, _⟩
  · rw [h2]; rfl
  · rw [hR] at h1; cases h1
theorem bcut_some (p p2 : Addr) (c1 c2 : Nat) (R a b : List UInt8) (w : World) (hG : GoodC w) (hR : Stf.cut R = some (a, b)) (hs : Src w (some p) (bv R)) (hs2 : Src w (some p2) (bv [13, 10])) (hcap : R.length ≤ c1) (hl : R.length ≤ 2147483648) :
    Calls Tryd.prog 34 #[.slice (some p) R.length c1, .slice (some p2) 2 c2] w fun e w' => e = .returned (.tuple #[.slice (some p) a.length c1, .slice (if c1 = a.length + 2 then some p else some (p.add (a.length + 2))) b.length (c1 - (a.length + 2)), .bool true]) ∧ Below w.heap.size w w' := by
  obtain ⟨m, hm⟩ := hG.max
  refine (Tryd.bytes_Cut_all (some p) (some p2) R.length c1 2 c2 (nums R) (nums [13, 10]) m w (nums_len R) (nums_len [13, 10]) (nums_byte R) (nums_byte [13, 10]) (bytes_in hs) (bytes_in hs2) (fun h => by cases h) hcap (by omega) (by omega) hm).mono ?_
  rintro e w' ⟨rfl, q, rfl⟩
  refine ⟨?_, below_drewN w q⟩
  rw [bytesOf_nums, bytesOf_nums]
  have hlen : R.length = a.length + 2 + b.length := by rw [Stf.cut_eq hR]; simp; omega
  rcases Stf.cut_index R with ⟨h1, h2⟩ | ⟨a', b', h1, h2⟩
  · rw [hR] at h1; cases h1
  · rw [hR] at h1
    obtain ⟨rfl, rfl⟩ : a = a' ∧ b = b' := by simpa using h1
    rw [h2]
    unfold Lib.cutV Lib.fromV
    rw [if_pos (by omega)]
    simp only [Int.toNat_natCast]
    rw [show R.length - (a.length + 2) = b.length by omega]
    rfl
theorem bpre_any (p p2 : Addr) (c1 c2 : Nat) (a : List UInt8) (w : World) (hs : Src w (some p) (bv a)) (hs2 : Src w (some p2) (bv [46])) (hcap : a.length ≤ c1) :
    Calls Tryd.prog 35 #[.slice (some p) a.length c1, .slice (some p2) 1 c2] w fun e w' => e = .returned (.bool (a.head? == some 46)) ∧ w = w' := by
  refine (Tryd.bytes_HasPrefix_all (some p) (some p2) a.length c1 1 c2 (nums a) (nums [46]) w (nums_len a) (nums_len [46]) hcap (bytes_in hs) (bytes_in hs2)).mono ?_
  rintro e w' ⟨rfl, rfl⟩
  refine ⟨?_, rfl⟩
  rw [bytesOf_nums, bytesOf_nums]
  cases a with
  | nil => rfl
  | cons c r =>
    by_cases hc : c = 46
    · subst hc; simp [Lib.hasPrefix]
    · have h1 : (46 == c) = false := by rw [beq_eq_false_iff_ne]; exact fun h => hc h.symm
      have h2 : (c == 46) = false := by rw [beq_eq_false_iff_ne]; exact hc
      simp [Lib.hasPrefix, List.isPrefixOf, h1, h2]
/-- bytes.Cut at a row that holds something: the line, the rest. -/
theorem bcut_any (p : Addr) (c1 : Nat) (R : List UInt8) (w : World) (hne : R ≠ []) (hs : Src w (some p) (bv R)) (hcap : R.length ≤ c1) (hl : R.length ≤ 2147483648) :
    ∃ (L T : List UInt8) (A2 : Option Addr) (C2 : Nat) (B0 : Bool), T.length ≤ C2 ∧ Src w A2 (bv T) ∧ Src w (some p) (bv L) ∧ L.length ≤ c1 ∧ Stf.stuffP R = Stf.dot true L ++ L ++ [13, 10] ++ Stf.stuffP T ∧ L.length + 3 + 4 * T.length ≤ 4 * R.length ∧
      ∀ (W : World) (p2 : Addr) (c2 : Nat), GoodC W → Src W (some p) (bv R) → Src W (some p2) (bv [13, 10]) → Calls Tryd.prog 34 #[.slice (some p) R.length c1, .slice (some p2) 2 c2] W fun e w' => e = .returned (.tuple #[.slice (some p) L.length c1, .slice A2 T.length C2, .bool B0]) ∧ Below W.heap.size W w' := by
  cases hc : Stf.cut R with
  | none =>
    refine ⟨R, [], none, 0, false, by simp, Src.empty, hs, hcap, by rw [Stf.stuffP_last hne hc, Stf.stuffP_nil], ?_, fun W p2 c2 hG h1 h2 => bcut_none p p2 c1 c2 R W hG hc h1 h2 hcap hl⟩
    have := List.length_pos_iff.2 hne
    simp; omega
  | some ab =>
    obtain ⟨a, b⟩ := ab
    have hlen : R.length = a.length + 2 + b.length := by rw [Stf.cut_eq hc]; simp; omega
    refine ⟨a, b, _, _, true, ?_, ?_, ?_, by omega, Stf.stuffP_line hc, by omega, fun W p2 c2 hG h1 h2 => bcut_some p p2 c1 c2 R a b W hG hc h1 h2 hcap hl⟩
    · omega
    · have h1 := hs.drop (a.length + 2)
      have h2 : (bv R).drop (a.length + 2) = bv b := by
        rw [← bv_drop, Stf.cut_eq hc, show a ++ 13 :: 10 :: b = (a ++ [13, 10]) ++ b by simp, show a.length + 2 = (a ++ [13, 10]).length by simp, List.drop_left]
      rw [h2] at h1
      split
      · have : b = [] := by apply List.eq_nil_of_length_eq_zero; omega
        subst this
        exact Src.empty
      · exact h1
    · have h1 := hs.take a.length
      have h2 : (bv R).take a.length = bv a := by rw [← bv_take, Stf.cut_eq hc, List.take_left]
      rw [h2] at h1
      exact h1

set_option maxHeartbeats 4000000 in
theorem stuff_any (A : Option Addr) (nn cc : Nat) (bs : List UInt8) (w : World) (hG : GoodC w) (hs : Src w A (bv bs)) (hn : nn = bs.length) (hcap : nn ≤ cc) (hl : bs.length ≤ 2147483648) :
    Calls Tryd.prog 15 #[.slice A nn cc] w fun e w' => ∃ v, e = .returned v ∧ Buf w.heap.size w' v (Stf.stuffP bs) ∧ Below w.heap.size w w' := by
  subst hn
  have HS := hid hs
  clear hs
  have kc := fun (W : World) (C : Array Value) (n c : Nat) => Lib.run_convert_bytes_const (P := Tryd.prog) W 22 5 C n c Tryd.underlying22 Tryd.underlying5
  go_enter Tryd.func15, Tryd.ntmps15
  go_wp2_with fail
  go_loopw [0, 3] (fun v0 v3 wr => ∃ (A1 : Option Addr) (c1 : Nat) (R o : List UInt8), v0 = .slice A1 R.length c1 ∧ R.length ≤ c1 ∧ Src w A1 (bv R) ∧ o ++ Stf.stuffP R = Stf.stuffP bs ∧ o.length + 4 * R.length ≤ 4 * bs.length ∧ R.length ≤ bs.length ∧ Buf w.heap.size wr v3 o ∧ Below w.heap.size w wr) (fun v0 _ _ => slLen v0)
  case atStart => exact ⟨A, cc, bs, [], rfl, hcap, HS.out, rfl, by simp, Nat.le_refl _, Buf.nil (Nat.le_refl _), Below.refl _ _⟩
  case round =>
    obtain ⟨A1, c1, R, o, rfl, hRc, hsr, heq, hol, hRb, hbuf, hbel⟩ := hrel
    have HEQ := hid heq
    have HBUF := hid hbuf
    have HBE := hid hbel
    have HSR := hid hsr
    clear heq hbuf hbel hsr
    by_cases hR : R = []
    · subst hR
      have hO : o ++ [46, 13, 10] = Stf.stuffP bs := by have := HEQ.out; rwa [Stf.stuffP_nil] at this
      have hol : o.length ≤ 8589934592 := by omega
      clear hRc hRb
      have HO := hid hO
      clear hO
      rw [List.length_nil]
      go_wp2_with (first | (at_builtin; refine wpList_buf_str w.heap.size _ rfl _ _ rfl u3 o [46, 13, 10] rfl HBUF.out _ rfl rfl (by simp; omega) ?_; intro v' w1 hr1 hb1))
      rw [HO.out] at hr1
      have HR1 := hid hr1
      clear hr1
      go_ret
      exact ⟨_, rfl, HR1.out, HBE.out.trans hb1⟩
    obtain ⟨p, rfl⟩ : ∃ p, A1 = some p := by
      cases A1 with
      | none => have := HSR.out.1 rfl; simp [bv] at this; exact absurd this hR
      | some p => exact ⟨p, rfl⟩
    obtain ⟨L, T, A2, C2, B0, hTC, hST, hSL, hLc, hst, hlen, hcut⟩ := bcut_any p c1 R w hR HSR.out hRc (by omega)
    have e1 : decide (0 < (R.length : Int)) = true := decide_eq_true (by have := List.length_pos_iff.2 hR; omega)
    have HST := hid hST
    have HSL := hid hSL
    have heq := HEQ.out
    rw [hst] at heq
    have HEQ2 := hid heq
    have hLb : o.length + (L.length + 3) + 4 * T.length ≤ 4 * bs.length := by omega
    have hbs4 : 4 * bs.length ≤ 8589934592 := by omega
    have hTR : T.length < R.length := by omega
    have HN := hid (And.intro hLb (And.intro hTC (And.intro hTR hRb)))
    obtain ⟨D, hD⟩ : ∃ D, D = (L.head? == some 46) := ⟨_, rfl⟩
    have hdot : Stf.dot true L = if D = true then [46] else [] := by
      rw [hD]
      unfold Stf.dot
      by_cases h : L.head? = some 46 <;> simp [h]
    have hpre := fun (W : World) (p2 : Addr) (c2 : Nat) (h1 : Src W (some p) (bv L)) (h2 : Src W (some p2) (bv [46])) => bpre_any p p2 c1 c2 L W h1 h2 hLc
    rw [← hD] at hpre
    have HDOT := hid hdot
    have hoL : o.length + L.length ≤ 8589934592 := by omega
    obtain ⟨N, hN⟩ : ∃ N, N = R.length := ⟨_, rfl⟩
    rw [← hN] at hcut e1 HN ⊢
    have hN0 : 0 < N := by rw [hN]; exact List.length_pos_iff.2 hR
    have hLN := hid hN
    clear hst heq hST hSL hlen hTC hTR hRb hLb hR hD hdot hol hLc hRc hN
    cases D with
    | true =>
      have tok0 : Tok 0 := ⟨⟩
      go_wp2_with (first
        | (go_at_call 34; refine (hcut _ _ _ (hG.below (HBE.out.alloc HBUF.out.2 _)) (HSR.out.below (HBE.out.alloc HBUF.out.2 _)) (lit_bytes wr [13, 10] _ _ rfl)).mono ?_; rintro e w1 ⟨rfl, hb1⟩; have hw1 := hid (below_then (HBE.out.alloc HBUF.out.2 _) hb1); have hu1 := hid ((HBUF.out.alloc _).keep hb1))
        | (go_at_call 35; refine (hpre _ _ _ (HSL.out.below (hw1.out.alloc hu1.out.2 _)) (lit_bytes w1 [46] _ _ rfl)).mono ?_; rintro e w2 ⟨rfl, rfl⟩)
        | (at_builtin; have t_ : Tok 0 := ‹Tok 0›; refine wpList_buf w.heap.size _ rfl _ _ rfl u3 o [46] rfl ((hu1.out.alloc _).alloc _) _ 1 1 rfl rfl (lit_at _ [46] _ _ _ (by simp) rfl) (by simp; omega) ?_; intro v3 w3 hr3 hb3; have hw3 := hid (((hw1.out.alloc hu1.out.2 _).alloc (hu1.out.alloc _).2 _).trans hb3); have hu3 := hid hr3; clear hr3; clear t_; clear tok0; have tok1 : Tok 1 := ⟨⟩)
        | (at_builtin; have t_ : Tok 1 := ‹Tok 1›; refine wpList_buf w.heap.size _ rfl _ _ rfl v3 (o ++ [46]) L rfl hu3.out (some p) L.length c1 rfl rfl (HSL.out.below hw3.out) (by simp; omega) ?_; intro v4 w4 hr4 hb4; have hu4 := hid hr4; have hw4 := hid (hw3.out.trans hb4); clear hr4; clear t_; clear tok1; have tok2 : Tok 2 := ⟨⟩)
        | (at_builtin; have t_ : Tok 2 := ‹Tok 2›; refine wpList_buf_str w.heap.size _ rfl _ _ rfl v4 (o ++ [46] ++ L) [13, 10] rfl hu4.out _ rfl rfl (by simp; omega) ?_; intro v5 w5 hr5 hb5; have hu5 := hid hr5; have hw5 := hid (hw4.out.trans hb5); clear hr5; clear t_; clear tok2; have tok3 : Tok 3 := ⟨⟩))
      go_roundw
      case rel =>
        refine ⟨A2, C2, T, o ++ [46] ++ L ++ [13, 10], rfl, HN.out.2.1, HST.out, ?_, ?_, ?_, hu5.out, hw5.out⟩
        · rw [← HEQ2.out, HDOT.out]; simp
        · have := HN.out; simp; omega
        · have := HN.out; omega
      case measure => have := HN.out; simp [slLen]; omega
    | false =>
      have tok1 : Tok 1 := ⟨⟩
      go_wp2_with (first
        | (go_at_call 34; refine (hcut _ _ _ (hG.below (HBE.out.alloc HBUF.out.2 _)) (HSR.out.below (HBE.out.alloc HBUF.out.2 _)) (lit_bytes wr [13, 10] _ _ rfl)).mono ?_; rintro e w1 ⟨rfl, hb1⟩; have hw1 := hid (below_then (HBE.out.alloc HBUF.out.2 _) hb1); have hu1 := hid ((HBUF.out.alloc _).keep hb1))
        | (go_at_call 35; refine (hpre _ _ _ (HSL.out.below (hw1.out.alloc hu1.out.2 _)) (lit_bytes w1 [46] _ _ rfl)).mono ?_; rintro e w2 ⟨rfl, rfl⟩)
        | (at_builtin; have t_ : Tok 1 := ‹Tok 1›; refine wpList_buf w.heap.size _ rfl _ _ rfl u3 o L rfl (hu1.out.alloc _) (some p) L.length c1 rfl rfl (HSL.out.below (hw1.out.alloc hu1.out.2 _)) (by omega) ?_; intro v4 w4 hr4 hb4; have hu4 := hid hr4; have hw4 := hid ((hw1.out.alloc hu1.out.2 _).trans hb4); clear hr4; clear t_; clear tok1; have tok2 : Tok 2 := ⟨⟩)
        | (at_builtin; have t_ : Tok 2 := ‹Tok 2›; refine wpList_buf_str w.heap.size _ rfl _ _ rfl v4 (o ++ L) [13, 10] rfl hu4.out _ rfl rfl (by simp; omega) ?_; intro v5 w5 hr5 hb5; have hu5 := hid hr5; have hw5 := hid (hw4.out.trans hb5); clear hr5; clear t_; clear tok2; have tok3 : Tok 3 := ⟨⟩))
      go_roundw
      case rel =>
        refine ⟨A2, C2, T, o ++ L ++ [13, 10], rfl, HN.out.2.1, HST.out, ?_, ?_, ?_, hu5.out, hw5.out⟩
        · rw [← HEQ2.out, HDOT.out]; simp
        · have := HN.out; simp; omega
        · have := HN.out; omega
      case measure => have := HN.out; simp [slLen]; omega

end Go.Proofs.YtnphpinnkmndfaaDoor
