/-
  The reference's split; rows of texts that grow.
-/
import Derived.Test.YtifjikpinmgfaaaDoorParse
namespace Go.Proofs.YtifjikpinmgfaaaDoor
open Go.RowKit Own Dec Sq
set_option linter.unusedVariables false
set_option linter.unusedSimpArgs false
set_option maxRecDepth 100000

theorem info_string : (Tryd.prog.info? 9).map (fun i => (i.zero, i.size, i.bytes)) = some (some (.string ByteArray.empty), 1, 16) := by kernel_rfl
def sv (l : List (List UInt8)) : List Value := l.map fun s => .string (str s)
theorem sv_append (l m : List (List UInt8)) : sv (l ++ m) = sv l ++ sv m := by simp [sv]
theorem sv_one (l : List (List UInt8)) : ∀ u ∈ sv l, u.oneCell' = true := by
  intro u hu
  simp only [sv, List.mem_map] at hu
  obtain ⟨r, _, rfl⟩ := hu
  rfl
/-- A row of texts of one's own. -/
def SBuf (B : Nat) (w : World) (v : Value) (l : List (List UInt8)) : Prop := GBuf 9 1 B w v l.length (sv l)
theorem SBuf.keep {B : Nat} {w w' : World} {v : Value} {l : List (List UInt8)} (h : SBuf B w v l) (hb : Below w.heap.size w w') : SBuf B w' v l := GBuf.keep h hb
theorem SBuf.alloc {B : Nat} {w : World} {v : Value} {l : List (List UInt8)} (h : SBuf B w v l) (o : Obj) : SBuf B (w.alloc o) v l := GBuf.alloc h o
theorem SBuf.mono {B B2 : Nat} {w : World} {v : Value} {l : List (List UInt8)} (h : SBuf B2 w v l) (hB : B ≤ B2) : SBuf B w v l := GBuf.mono h hB
theorem SBuf.nil {B : Nat} {w : World} (h : B ≤ w.heap.size) : SBuf B w (.slice none 0 0) [] := GBuf.nil h
theorem SBuf.full {B : Nat} {w : World} {v : Value} {l : List (List UInt8)} (h : SBuf B w v l) : ∃ A c, v = .slice A l.length c ∧ l.length ≤ c ∧ (A = none → l = []) ∧ ∀ p, A = some p → ∃ g, p = ⟨g, 0, none⟩ ∧ B ≤ g ∧ ∀ j x, l[j]? = some x → w.cell? ⟨g, j, none⟩ = some (.string (str x)) := by
  obtain ⟨A, c, hv, hc, h1, h2⟩ := GBuf.full h
  refine ⟨A, c, hv, hc, (fun ha => List.eq_nil_of_length_eq_zero (h1 ha).1), fun p hp => ?_⟩
  obtain ⟨g, rfl, hg, hcell⟩ := h2 p hp
  exact ⟨g, rfl, hg, fun j x hx => hcell j _ (by simp [sv, hx])⟩
theorem slit (w : World) (x : List UInt8) (cs : Array Value) (fr : Nat × Nat) (n : Nat) (hn : n = w.heap.size) (h : cs.toList = sv [x]) : ∀ j u, (sv [x])[j]? = some u → (w.alloc (.cells cs 9 fr)).cell? ((⟨n, 0, none⟩ : Addr).add j) = some u := by
  rw [← h]
  exact lit_cells w cs _ fr n hn
/-- append(v, x) of one text: a step of the walk. -/
theorem wpList_sbuf {ops : Array Oper} {rest : List Oper} {o : Oper} {a : Act} {Q : Exit → Act → World → Prop} (B : Nat) (w : World) (hgd : o.guard = none) (s x : Operand)
    (ho : o.op = .call { callee := .builtin .append, args := #[s, x], argTypes := #[43, 43] }) (v : Value) (l : List (List UInt8)) (r : List UInt8) (hs : a.eval s = v) (hbuf : SBuf B w v l)
    (ad : Addr) (c : Nat) (hx : a.eval x = .slice (some ad) 1 c) (hnews : ∀ j u, (sv [r])[j]? = some u → w.cell? (ad.add j) = some u) (hlen : l.length ≤ 1000000000)
    (h : ∀ v' w', SBuf B w' v' (l ++ [r]) → Below B w w' → wpList Tryd.prog ops Q rest (a.put o.dst v') w') : wpList Tryd.prog ops Q (o :: rest) a w := by
  refine wpList_gbuf B w hgd s x 43 9 1 16 _ ho Tryd.underlying43 info_string rfl (by decide) v l.length (sv l) hs hbuf ad 1 c (sv [r]) hx rfl hnews (sv_one [r]) (by unfold maxLen; omega) (by omega) ?_
  intro v' w' h1 h2
  refine h v' w' ?_ h2
  unfold SBuf
  rw [sv_append, List.length_append]
  exact h1

theorem str_cut2 (l : List UInt8) (i j : Nat) : (str l).extract i j = str ((l.take j).drop i) := by
  apply ByteArray.ext
  apply Array.ext'
  simp [str, ByteArray.data_extract, Array.toList_extract, List.extract_eq_take_drop, List.drop_take]

attribute [local go_sem] str_toList str_size
set_option maxHeartbeats 2000000 in
theorem rsplit_any (c : UInt8) (l : List UInt8) (w : World) (hl : l.length ≤ 100000000) :
    Calls Tryd.prog 24 #[.string (str l), .int .u8 c.toNat] w fun e w' => ∃ v, e = .returned v ∧ SBuf w.heap.size w' v (Spl.splitL c l) ∧ Below w.heap.size w w' := by
  have hsz := str_size l
  go_enter Tryd.func24, Tryd.ntmps24
  go_wp2_with fail
  go_loopw [5, 6, 7] (fun v5 v6 v7 wr => ∃ (fr i : Nat) (o : List (List UInt8)), fr ≤ i ∧ i ≤ l.length + 1 ∧ v6 = .int .i64 fr ∧ v7 = .int .i64 i ∧ (i ≤ l.length → o ++ Spl.splitL c (l.drop fr) = Spl.splitL c l ∧ c ∉ (l.drop fr).take (i - fr)) ∧ (l.length < i → o = Spl.splitL c l) ∧ o.length ≤ i ∧ SBuf w.heap.size wr v5 o ∧ Below w.heap.size w wr) (fun _ _ v7 _ => l.length + 1 - (intOf v7).toNat)
  case atStart => exact ⟨0, 0, [], Nat.le_refl _, by omega, rfl, rfl, fun _ => ⟨rfl, by simp⟩, fun h => by omega, by simp, SBuf.nil (Nat.le_refl _), Below.refl _ _⟩
  case round =>
    obtain ⟨fr, i, o, hfi, hi, rfl, rfl, h1, h2, hoi, hbuf, hbel⟩ := hrel
    have HBUF := hid hbuf
    have HBE := hid hbel
    clear hbuf hbel
    by_cases hle : i ≤ l.length
    · have e1 : decide ((i : Int) ≤ (l.length : Int)) = true := decide_eq_true (by omega)
      obtain ⟨hsp, hno⟩ := h1 hle
      have hx : (str l).extract fr i = str ((l.drop fr).take (i - fr)) := by rw [str_cut2, List.drop_take]
      have HSP := hid hsp
      have HNO := hid hno
      clear h1 h2 hsp hno
      by_cases hil : i < l.length
      · have e2 : ((i : Int) == (l.length : Int)) = false := by rw [beq_eq_false_iff_ne]; omega
        obtain ⟨x, hxx⟩ : ∃ x, x = l[i] := ⟨_, rfl⟩
        have hix : ∀ hh, (str l)[i]'hh = x := by intro hh; rw [hxx]; rfl
        have hdr : l.drop i = x :: l.drop (i + 1) := by rw [List.drop_eq_getElem_cons hil, hxx]
        have hdf : l.drop fr = (l.drop fr).take (i - fr) ++ x :: l.drop (i + 1) := by
          rw [← hdr]
          have : l.drop i = (l.drop fr).drop (i - fr) := by rw [List.drop_drop, show fr + (i - fr) = i by omega]
          rw [this, List.take_append_drop]
        have HDF := hid hdf
        have hcs : (∃ h : x = c, True) ∨ x ≠ c := by by_cases h : x = c; exact .inl ⟨h, trivial⟩; exact .inr h
        clear hxx hdr hdf
        rcases hcs with ⟨hxc, -⟩ | hxc
        · have e3 : ((x.toNat : Int) == (c.toNat : Int)) = true := by rw [hxc]; simp
          have hsp2 : o ++ [(l.drop fr).take (i - fr)] ++ Spl.splitL c (l.drop (i + 1)) = Spl.splitL c l := by
            have := HSP.out
            rw [HDF.out, hxc, Spl.splitL_at _ HNO.out] at this
            rw [List.append_assoc]; exact this
          have HSP2 := hid hsp2
          clear hxc hsp2 HSP HNO HDF
          generalize (l.drop fr).take (i - fr) = piece at *
          go_wp2_with ((at_builtin; refine wpList_sbuf w.heap.size _ rfl _ _ rfl u5 o piece rfl (HBUF.out.alloc _) _ 1 rfl (slit _ piece _ _ _ rfl (by first | rfl | rw [hx]; rfl)) (by omega) ?_; intro v' w1 hr1 hb1))
          go_roundw
          case rel => exact ⟨i + 1, i + 1, o ++ [piece], Nat.le_refl _, by omega, by go_num, by go_num, fun _ => ⟨HSP2.out, by simp⟩, fun h => by omega, by simp; omega, hr1, (HBE.out.alloc HBUF.out.2 _).trans hb1⟩
          case measure => simp [intOf]; omega
        · have e3 : ((x.toNat : Int) == (c.toNat : Int)) = false := by
            rw [beq_eq_false_iff_ne]; intro h; exact hxc (UInt8.toNat_inj.mp (by omega))
          have hno2 : c ∉ (l.drop fr).take (i + 1 - fr) := by
            have e : (l.drop fr).take (i + 1 - fr) = (l.drop fr).take (i - fr) ++ [x] := by
              conv => lhs; rw [HDF.out]
              rw [show i + 1 - fr = ((l.drop fr).take (i - fr)).length + 1 by simp; omega, List.take_length_add_append]
              rfl
            rw [e]
            intro hm
            rcases List.mem_append.1 hm with h | h
            · exact HNO.out h
            · exact hxc (List.mem_singleton.1 h).symm
          have HNO2 := hid hno2
          clear hxc hno2 HNO HDF hx
          go_wp2_with fail
          go_roundw
          case rel => exact ⟨fr, i + 1, o, by omega, by omega, rfl, by go_num, fun _ => ⟨HSP.out, HNO2.out⟩, fun h => by omega, by omega, HBUF.out, HBE.out⟩
          case measure => simp [intOf]; omega
      · have hie : i = l.length := by omega
        have e2 : ((i : Int) == (l.length : Int)) = true := by rw [beq_iff_eq]; omega
        have hfull : (l.drop fr).take (i - fr) = l.drop fr := List.take_of_length_le (by simp; omega)
        have hsp2 : o ++ [(l.drop fr).take (i - fr)] = Spl.splitL c l := by
          have h3 := HNO.out
          rw [hfull] at h3 ⊢
          rw [← HSP.out, Spl.splitL_none h3]
        have HSP2 := hid hsp2
        have HIE := hid hie
        clear hsp2 HSP HNO hie hfull
        generalize (l.drop fr).take (i - fr) = piece at *
        go_wp2_with ((at_builtin; refine wpList_sbuf w.heap.size _ rfl _ _ rfl u5 o piece rfl (HBUF.out.alloc _) _ 1 rfl (slit _ piece _ _ _ rfl (by first | rfl | rw [hx]; rfl)) (by omega) ?_; intro v' w1 hr1 hb1))
        go_roundw
        case rel => exact ⟨i + 1, i + 1, o ++ [piece], Nat.le_refl _, by omega, by go_num, by go_num, fun h => by have := HIE.out; omega, fun _ => HSP2.out, by simp; omega, hr1, (HBE.out.alloc HBUF.out.2 _).trans hb1⟩
        case measure => simp [intOf]; omega
    · have e1 : decide ((i : Int) ≤ (l.length : Int)) = false := decide_eq_false (by omega)
      have ho := h2 (by omega)
      have HO := hid ho
      clear h1 h2 ho
      go_wp2_with fail
      go_ret
      exact ⟨_, rfl, by rw [← HO.out]; exact HBUF.out, HBE.out⟩

end Go.Proofs.YtifjikpinmgfaaaDoor
