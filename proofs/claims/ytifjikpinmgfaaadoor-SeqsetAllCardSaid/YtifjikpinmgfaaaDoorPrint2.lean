/-
  The program's Print of a set: the loop, the join.
-/
import Derived.Test.YtifjikpinmgfaaaDoorPrint
namespace Go.Proofs.YtifjikpinmgfaaaDoor
open Go.RowKit Own Dec Sq
set_option linter.unusedVariables false
set_option linter.unusedSimpArgs false
set_option maxRecDepth 100000

namespace Sq
theorem txt_len {n : Int} (h0 : 0 ≤ n) (h1 : n ≤ 4294967295) : (txt n).length ≤ 10 := by
  unfold txt
  split
  · simp
  · obtain ⟨k, rfl⟩ : ∃ k : Nat, n = k := ⟨n.toNat, by omega⟩
    rw [itoa_digs]
    exact Text.digs_len 9 k (by have : (10 : Nat) ^ (9 + 1) = 10000000000 := rfl; omega)
theorem okR_iff {r : Rg} (h : okR r = true) : 0 ≤ r.1 ∧ r.1 ≤ 4294967295 ∧ 0 ≤ r.2 ∧ r.2 ≤ 4294967295 := by
  unfold okR at h
  simp at h
  omega
theorem rtxt_len {r : Rg} (h : okR r = true) : (rtxt r).length ≤ 21 := by
  obtain ⟨h1, h2, h3, h4⟩ := okR_iff h
  have e1 := txt_len h1 h2
  have e2 := txt_len h3 h4
  unfold rtxt
  split
  · omega
  · simp; omega
theorem join_len (sep : List UInt8) (k : Nat) : ∀ l : List (List UInt8), (∀ x ∈ l, x.length ≤ k) → (Lib.join l sep).length ≤ l.length * (k + sep.length)
  | [], _ => by simp [Lib.join_nil]
  | x :: r, h => by
    rw [Lib.join_cons, List.length_append]
    have ht : ∀ r : List (List UInt8), (∀ x ∈ r, x.length ≤ k) → (Lib.joinTail sep r).length ≤ r.length * (k + sep.length) := by
      intro r hr
      induction r with
      | nil => simp [Lib.joinTail]
      | cons y r ih =>
        have := ih (fun x hx => hr x (by simp [hx]))
        have hy := hr y (by simp)
        have e : Lib.joinTail sep (y :: r) = sep ++ y ++ Lib.joinTail sep r := by simp [Lib.joinTail]
        rw [e, List.length_append, List.length_append, List.length_cons, Nat.add_mul]
        omega
    have h1 := ht r (fun x hx => h x (by simp [hx]))
    have h2 := h x (by simp)
    rw [List.length_cons, Nat.add_mul]
    omega
end Sq

theorem join_any (A : Option Addr) (n c : Nat) (xs : List (List UInt8)) (w : World) (hn : n = xs.length) (hc : n ≤ c) (hA : A = none → xs = []) (hs : ∀ p, A = some p → ∃ g, p = ⟨g, 0, none⟩ ∧ ∀ j x, xs[j]? = some x → w.cell? ⟨g, j, none⟩ = some (.string (str x))) (hl : xs.length ≤ 1000000) (hlen : (Lib.join xs [44]).length ≤ 140737488355328) :
    Calls Tryd.prog 28 #[.slice A n c, .string (str [44])] w fun e w' => e = .returned (.string (str (Lib.join xs [44]))) ∧ Below w.heap.size w w' := by
  subst hn
  cases A with
  | none =>
    have hx := hA rfl
    subst hx
    refine (Tryd.strings_Join_none none c (str [44]) w).mono ?_
    rintro e w' ⟨rfl, rfl⟩
    exact ⟨rfl, Below.refl _ _⟩
  | some p =>
    obtain ⟨g, rfl, hcell⟩ := hs p rfl
    by_cases hx : xs = []
    · subst hx
      refine (Tryd.strings_Join_none _ c (str [44]) w).mono ?_
      rintro e w' ⟨rfl, rfl⟩
      exact ⟨rfl, Below.refl _ _⟩
    · have hg : g < w.heap.size := by
        cases xs with
        | nil => exact absurd rfl hx
        | cons x r => exact World.block_lt_of_cell? w ⟨g, 0, none⟩ (hcell 0 x rfl)
      have hm : (xs.map str).map (·.data.toList) = xs := by
        rw [List.map_map]
        conv => rhs; rw [← List.map_id xs]
        apply List.map_congr_left
        intro x _
        simp [str]
      have hj := Tryd.strings_Join g 0 c (xs.map str) (str [44]) w (by
        intro j x hxj
        rw [Nat.zero_add]
        rw [List.getElem?_map] at hxj
        cases hq : xs[j]? with
        | none => rw [hq] at hxj; cases hxj
        | some y =>
          rw [hq] at hxj
          obtain rfl : str y = x := by simpa using hxj
          exact hcell j y hq) hg (by rw [List.length_map]; omega) (by rw [List.length_map]; exact hc) (by rw [hm]; exact hlen)
      rw [hm, List.length_map] at hj
      exact hj

attribute [local go_sem] str_toList str_size ByteArray.size_append
set_option maxHeartbeats 4000000 in
theorem print_any (A : Option Addr) (nn cc : Nat) (l : List Rg) (w : World) (hG : GoodC w) (hs : SrcR w A l) (hn : nn = l.length) (hl : l.length ≤ 100000000) :
    Calls Tryd.prog 16 #[.slice A nn cc] w fun e w' => e = .returned (.tuple #[.string (str (printS l).1), .int .i64 (printS l).2]) ∧ Below w.heap.size w w' := by
  subst hn
  obtain ⟨R, E, hRE⟩ : ∃ R E, printS l = (R, E) := ⟨_, _, rfl⟩
  rw [hRE]
  have HRE := hid hRE
  have HS := hid hs
  clear hRE hs
  go_enter Tryd.func16, Tryd.ntmps16
  go_wp2_with fail
  go_loopw [4, 10] (fun v4 v10 wr => ∃ i : Nat, i ≤ l.length ∧ v10 = .int .i64 i ∧ (l.take i).all okR = true ∧ SBuf w.heap.size wr v4 ((l.take i).map rtxt) ∧ Below w.heap.size w wr) (fun _ v10 _ => l.length - (intOf v10).toNat)
  case atStart => exact ⟨0, Nat.zero_le _, rfl, rfl, SBuf.nil (Nat.le_refl _), Below.refl _ _⟩
  case round =>
    obtain ⟨i, hi, rfl, hall, hbuf, hbel⟩ := hrel
    have HALL := hid hall
    have HBUF := hid hbuf
    have HBE := hid hbel
    by_cases hil : i < l.length
    · obtain ⟨⟨a, b⟩, hab⟩ : ∃ r, l[i]? = some r := ⟨_, List.getElem?_eq_getElem hil⟩
      obtain ⟨bk, of, rfl⟩ := srcR_some HS.out (fun h => by rw [h] at hil; simp at hil)
      obtain ⟨hx1, hx2⟩ := (HS.out.below hbel).at_ hab
      have htk := take_snoc hab
      have hmem : (a, b) ∈ l := List.mem_of_getElem? hab
      have HAB := hid (And.intro htk hmem)
      clear hab htk hmem hall hbuf hbel
      have hin := fun W p h => in_any p 2 a b W h
      cases hok : okR (a, b) with
      | false =>
        rw [hok] at hin
        have he : R = [] ∧ E = 190 := by
          have hf : l.all okR = false := by
            cases hq : l.all okR with
            | false => rfl
            | true => have := List.all_eq_true.1 hq _ HAB.out.2; rw [hok] at this; cases this
          have := HRE.out
          unfold printS at this
          rw [if_pos hf] at this
          simp only [Prod.mk.injEq] at this
          exact ⟨this.1.symm, this.2.symm⟩
        have HE := hid he
        clear he hok
        go_wp2_with ((go_at_call 26; refine (hin _ _ (ilit_at _ [a, b] _ _ _ (by simp) rfl)).mono ?_; rintro e w1 ⟨rfl, rfl⟩; have b1 := hid ((HBE.out.alloc HBE.out.size (.cells #[.int .i64 a, .int .i64 b] 30)).alloc (by simp; have := HBE.out.size; omega) (.cells #[.int .i64 a, .int .i64 b] 3)); have H1 := hid ((HBUF.out.alloc (.cells #[.int .i64 a, .int .i64 b] 30)).alloc (.cells #[.int .i64 a, .int .i64 b] 3))))
        exact bodyPost_ret (v := .tuple #[.string (str []), .int .i64 190]) (by simp [results, Tryd.results16, go_sem]; first | done | rfl) rfl ⟨by rw [HE.out.1, HE.out.2], b1.out⟩
      | true =>
        rw [hok] at hin
        obtain ⟨ha0, ha1, hb0, hb1⟩ := okR_iff hok
        dsimp only at ha0 ha1 hb0 hb1
        have hta := fun W g => txt_any a W g (by omega) (by omega)
        have htb := fun W g => txt_any b W g (by omega) (by omega)
        have hla := txt_len ha0 ha1
        have hlb := txt_len hb0 hb1
        have hmap : (l.take (i + 1)).map rtxt = (l.take i).map rtxt ++ [rtxt (a, b)] := by rw [HAB.out.1, List.map_append]; rfl
        have hall2 : (l.take (i + 1)).all okR = true := by rw [HAB.out.1, List.all_append, HALL.out]; simp [hok]
        have hml : ((l.take i).map rtxt).length ≤ i := by simp; omega
        have HALL2 := hid hall2
        clear hall2
        by_cases hne : a = b
        · have e1 : (a != b) = false := by simpa using hne
          have hr : rtxt (a, b) = txt a := by unfold rtxt; rw [if_pos hne]
          rw [hr] at hmap
          have HM := hid hmap
          clear hr hok hne htb hlb hmap
          generalize txt a = X at *
          generalize (l.take i).map rtxt = o at *
          go_wp2_with (first
            | (go_at_call 26; refine (hin _ _ (ilit_at _ [a, b] _ _ _ (by simp) rfl)).mono ?_; rintro e w1 ⟨rfl, rfl⟩; have b1 := hid ((HBE.out.alloc HBE.out.size (.cells #[.int .i64 a, .int .i64 b] 30)).alloc (by simp; have := HBE.out.size; omega) (.cells #[.int .i64 a, .int .i64 b] 3)); have H1 := hid ((HBUF.out.alloc (.cells #[.int .i64 a, .int .i64 b] 30)).alloc (.cells #[.int .i64 a, .int .i64 b] 3)))
            | (go_at_call 27; refine (hta _ (hG.below b1.out)).mono ?_; rintro e w2 ⟨rfl, c2⟩; have b2 := hid (below_then b1.out c2); have H2 := hid (H1.out.keep c2); have hc0 := keep_below (p := ⟨wr.heap.size, 0, none⟩) (v := .int .i64 a) c2 rfl (by go_simp); have hc1 := keep_below (p := ⟨wr.heap.size, 1, none⟩) (v := .int .i64 b) c2 rfl (by go_simp); clear c2)
            | (at_builtin; refine wpList_sbuf w.heap.size _ rfl _ _ rfl u4 o X rfl (H2.out.alloc _) _ 1 rfl (slit _ X _ _ _ rfl rfl) (by omega) ?_; intro v' w5 hr5 hb5))
          go_roundw
          case rel => exact ⟨i + 1, by omega, by go_num, HALL2.out, by rw [HM.out]; exact hr5, (b2.out.alloc b2.out.size _).trans hb5⟩
          case measure => simp [intOf]; omega
        · have e1 : (a != b) = true := by simpa using hne
          have hr : rtxt (a, b) = txt a ++ [58] ++ txt b := by unfold rtxt; rw [if_neg hne]
          have HM := hid hmap
          have tok0 : Tk 0 := ⟨⟩
          have hap : ∀ X Y : List UInt8, str X ++ (({ data := #[58] } : ByteArray) ++ str Y) = str (X ++ [58] ++ Y) := fun X Y => by
            rw [show ({ data := #[58] } : ByteArray) = str [58] from rfl, str_append, str_append, List.append_assoc]
          have hap1 := hap (txt a) (txt b)
          rw [← hr] at hap1
          have hsa : (str (txt a)).size ≤ 10 := by rw [str_size]; exact hla
          have hsb : (str (txt b)).size ≤ 10 := by rw [str_size]; exact hlb
          clear hr hok hne hmap hap
          generalize txt a = X at *
          generalize txt b = Y at *
          generalize rtxt (a, b) = Z at *
          generalize (l.take i).map rtxt = o at *
          go_wp2_with (first
            | (go_at_call 26; refine (hin _ _ (ilit_at _ [a, b] _ _ _ (by simp) rfl)).mono ?_; rintro e w1 ⟨rfl, rfl⟩; have b1 := hid ((HBE.out.alloc HBE.out.size (.cells #[.int .i64 a, .int .i64 b] 30)).alloc (by simp; have := HBE.out.size; omega) (.cells #[.int .i64 a, .int .i64 b] 3)); have H1 := hid ((HBUF.out.alloc (.cells #[.int .i64 a, .int .i64 b] 30)).alloc (.cells #[.int .i64 a, .int .i64 b] 3)))
            | (go_at_call 27; have t_ : Tk 0 := ‹Tk 0›; refine (hta _ (hG.below b1.out)).mono ?_; rintro e w2 ⟨rfl, c2⟩; have b2 := hid (below_then b1.out c2); have H2 := hid (H1.out.keep c2); have hc0 := keep_below (p := ⟨wr.heap.size, 0, none⟩) (v := .int .i64 a) c2 rfl (by go_simp); have hc1 := keep_below (p := ⟨wr.heap.size, 1, none⟩) (v := .int .i64 b) c2 rfl (by go_simp); clear c2; clear t_; clear tok0; have tok1 : Tk 1 := ⟨⟩)
            | (go_at_call 27; have t_ : Tk 1 := ‹Tk 1›; refine (htb _ (hG.below b2.out)).mono ?_; rintro e w3 ⟨rfl, c3⟩; have b3 := hid (below_then b2.out c3); have H3 := hid (H2.out.keep c3); clear c3; clear t_; clear tok1; have tok2 : Tk 2 := ⟨⟩)
            | (at_builtin; refine wpList_sbuf w.heap.size _ rfl _ _ rfl u4 o Z rfl (H3.out.alloc _) _ 1 rfl (slit _ Z _ _ _ rfl rfl) (by omega) ?_; intro v' w5 hr5 hb5))
          go_roundw
          case rel => exact ⟨i + 1, by omega, by go_num, HALL2.out, by rw [HM.out]; exact hr5, (b3.out.alloc b3.out.size _).trans hb5⟩
          case measure => simp [intOf]; omega
    · obtain rfl : i = l.length := by omega
      have hall := HALL.out
      have hbuf := HBUF.out
      rw [List.take_length] at hall hbuf
      have hre := HRE.out
      unfold printS at hre
      rw [if_neg (by rw [hall]; simp)] at hre
      obtain ⟨A4, c4, rfl, hc4, hA4, hp4⟩ := hbuf.full
      have hjl := join_len [44] 21 (l.map rtxt) (by
        intro x hx
        obtain ⟨r, hr, rfl⟩ := List.mem_map.1 hx
        exact rtxt_len (List.all_eq_true.1 hall r hr))
      rw [List.length_map] at hjl hc4
      have HP4 := hid hp4
      have HA4 := hid hA4
      clear hall hbuf HBUF HALL hp4 hA4 hil hi
      by_cases h0 : l.length = 0
      · rw [if_pos h0] at hre
        simp only [Prod.mk.injEq] at hre
        have HE := hid (And.intro hre.1.symm hre.2.symm)
        have e1 : ((l.length : Int) == 0) = true := by rw [beq_iff_eq]; omega
        rw [List.length_map]
        clear hre h0
        go_wp2_with fail
        exact bodyPost_ret (v := .tuple #[.string (str []), .int .i64 190]) (by simp [results, Tryd.results16, go_sem]; first | done | rfl) rfl ⟨by rw [HE.out.1, HE.out.2], HBE.out⟩
      · rw [if_neg h0] at hre
        have e1 : ((l.length : Int) == 0) = false := by rw [beq_eq_false_iff_ne]; omega
        by_cases h16 : 16 < l.length
        · rw [if_pos h16] at hre
          simp only [Prod.mk.injEq] at hre
          have HE := hid (And.intro hre.1.symm hre.2.symm)
          rw [List.length_map]
          clear hre h0
          go_wp2_with fail
          exact bodyPost_ret (v := .tuple #[.string (str []), .int .i64 5]) (by simp [results, Tryd.results16, go_sem]; first | done | rfl) rfl ⟨by rw [HE.out.1, HE.out.2], HBE.out⟩
        · rw [if_neg h16] at hre
          simp only [Prod.mk.injEq] at hre
          have HE := hid (And.intro hre.1.symm hre.2.symm)
          have hj := join_any A4 l.length c4 (l.map rtxt) wr (by rw [List.length_map]) hc4 HA4.out (fun p hp => by obtain ⟨g, h1, _, h2⟩ := HP4.out p hp; exact ⟨g, h1, h2⟩) (by rw [List.length_map]; omega) (by simp at hjl; omega)
          rw [List.length_map]
          rw [← HE.out.1] at hj
          clear hre h0 hjl
          go_wp2_with ((go_at_call 28; refine hj.mono ?_; rintro e w2 ⟨rfl, c2⟩))
          exact bodyPost_ret (v := .tuple #[.string (str R), .int .i64 0]) (by simp [results, Tryd.results16, go_sem]; first | done | rfl) rfl ⟨by rw [HE.out.2], below_then HBE.out c2⟩

end Go.Proofs.YtifjikpinmgfaaaDoor
