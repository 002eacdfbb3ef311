/-
  AddressPhrases walked.
-/
import Derived.Test.YtmgndnbcaeepcaaDoorShown
import Derived.Test.YtmgndnbcaeepcaaDoorBackL
namespace Go.Proofs.YtmgndnbcaeepcaaDoor
open Go.RowKit Own Ad
set_option linter.unusedVariables false
set_option linter.unusedSimpArgs false
set_option maxRecDepth 100000
attribute [local go_sem] str_toList

def iv (l : List Int) : List Value := l.map (.int .i64)
theorem iv_at {l : List Int} {i : Nat} {x : Int} (h : l[i]? = some x) : (iv l)[i]? = some (.int .i64 x) := by simp [iv, h]
theorem sv_at2 {l : List (List UInt8)} {i : Nat} {x : List UInt8} (h : l[i]? = some x) : (sv l)[i]? = some (.string (str x)) := by simp [sv, h]
theorem src_some {w : World} {A : Option Addr} {xs : List Value} (h : Src w A xs) (hne : xs ≠ []) : ∃ p, A = some p := by
  cases A with
  | none => exact absurd (h.1 rfl) hne
  | some p => exact ⟨p, rfl⟩

/-- What the loop has built: the text, the name. -/
structure PhR (ph : List Wd) (T N : List UInt8) : Prop where
  ok : ∀ p ∈ ph, okWd p = true
  txt : T ++ [32] = if ph = [] then [32] else wdT ph
  nam : N = nmT ph
theorem PhR.nil : PhR [] [] [] := ⟨by simp, rfl, rfl⟩
theorem PhR.zero {T N : List UInt8} (h : PhR [] T N) : T = [] ∧ N = [] := by
  refine ⟨?_, h.nam⟩
  have := h.txt
  rw [if_pos rfl] at this
  simpa using this
theorem nm_ne {ph : List Wd} (h : ph ≠ []) (hk : ∀ p ∈ ph, okWd p = true) : nmT ph ≠ [] := by
  obtain ⟨p, r, rfl⟩ := List.exists_cons_of_ne_nil h
  have := (wd_byte (hk p (by simp))).1
  unfold nmT
  rw [List.map_cons, Lib.join_cons]
  simp [this]
theorem PhR.first {x : List UInt8} {k : Nat} (h : okWd (x, k) = true) : PhR [(x, k)] (x ++ List.replicate k 9) x :=
  ⟨by simpa using h, by simp [wdT], by simp [nmT, Lib.join_one]⟩
theorem PhR.more {ph : List Wd} {T N x : List UInt8} {k : Nat} (h : PhR ph T N) (hp : ph ≠ []) (hx : okWd (x, k) = true) : PhR (ph ++ [(x, k)]) (T ++ [32] ++ x ++ List.replicate k 9) (N ++ [32] ++ x) := by
  refine ⟨?_, ?_, ?_⟩
  · intro p hp2
    rcases List.mem_append.1 hp2 with h2 | h2
    · exact h.ok p h2
    · have : p = (x, k) := by simpa using h2
      subst this; exact hx
  · rw [if_neg (by simp), wdT_snoc]
    have := h.txt
    rw [if_neg hp] at this
    rw [this]; simp
  · unfold nmT
    rw [List.map_append, List.map_cons, List.map_nil, join_snoc _ _ _ (by simpa using hp), h.nam]
    rfl
theorem PhR.last {ph : List Wd} {T N : List UInt8} (h : PhR ph T N) (hp : ph ≠ []) : T ++ [32, 60, 120, 64, 121, 46, 122, 62] = wdT ph ++ tail0 := by
  have := h.txt
  rw [if_neg hp] at this
  rw [← this]
  simp [tail0]
/-- What the word's loop has taken. -/
def okB2 (c : UInt8) : Bool := decide (97 ≤ c.toNat ∧ c.toNat ≤ 122) || c == 46
theorem okB2_snoc {y : List UInt8} {c : UInt8} (h : ∀ d ∈ y, okB2 d = true) (hc : okB2 c = true) : ∀ d ∈ y ++ [c], okB2 d = true := by
  intro d hd
  rcases List.mem_append.1 hd with h2 | h2
  · exact h d h2
  · have : d = c := by simpa using h2
    rw [this]; exact hc
theorem okWd_of {y : List UInt8} {k : Nat} (h : ∀ d ∈ y, okB2 d = true) (hne : y ≠ []) : okWd (y, k) = true := by
  unfold okWd
  rw [Bool.and_eq_true, List.all_eq_true]
  exact ⟨by simpa using hne, fun c hc => h c hc⟩

set_option maxHeartbeats 16000000 in
theorem phrases_walk (A : Option Addr) (nn cc : Nat) (l : List (List UInt8)) (A2 : Option Addr) (n2 c2 : Nat) (bl : List Int) (w : World) (hG : GoodA w) (h0 : 0 < w.heap.size) (hs : Src w A (sv l)) (hn : nn = l.length) (hs2 : Src w A2 (iv bl)) (hn2 : n2 = bl.length) (hl : l.length ≤ 1048576) (hlb : ∀ a ∈ l, a.length ≤ 1048576) (hl2 : bl.length ≤ 1048576) :
    Calls Tryd.prog 3 #[.slice A nn cc, .slice A2 n2 c2] w fun e w' => e = .returned (.bool true) ∧ Below w.heap.size w w' := by
  subst hn hn2
  have HS := hid hs
  have HS2 := hid hs2
  have HLB := hid hlb
  clear hs hs2 hlb
  go_enter Tryd.func3, Tryd.ntmps3
  go_wp2_with (go_at_call 7; refine (shown_any _ hG h0).mono ?_; rintro e w1 ⟨rfl, d1⟩; have B1 := hid d1; clear d1)
  go_loopw [6, 7, 8] (fun v6 v7 v8 wr => ∃ (i : Nat) (ph : List Wd) (T N : List UInt8), i ≤ l.length ∧ i ≤ 9 ∧ v8 = .int .i64 i ∧ v6 = .string (str T) ∧ v7 = .string (str N) ∧ PhR ph T N ∧ ph.length ≤ i ∧ T.length ≤ 26 * i ∧ N.length ≤ 26 * i ∧ Below w.heap.size w wr) (fun _ _ v8 _ => 9 - (intOf v8).toNat)
  case atStart => exact ⟨0, [], [], [], Nat.zero_le _, by decide, rfl, rfl, rfl, PhR.nil, by decide, by decide, by decide, B1.out⟩
  case round =>
    obtain ⟨i, ph, T, N, hi, hi9, rfl, rfl, rfl, hph, hpl, hTl, hNl, hbel⟩ := hrel
    have HPH := hid hph
    have HBE := hid hbel
    clear hph hbel
    have hzT := str_size T
    have hzN := str_size N
    by_cases hgo : i < l.length ∧ i < 9
    · obtain ⟨hil, hi9b⟩ := hgo
      obtain ⟨x, hx⟩ : ∃ x, l[i]? = some x := ⟨_, List.getElem?_eq_getElem hil⟩
      obtain ⟨p, rfl⟩ := src_some HS.out (by intro e; have := congrArg List.length e; simp [sv] at this; subst this; simp at hil)
      have hxl := HLB.out _ (List.mem_of_getElem? hx)
      have hzx := str_size x
      have hk0 : (0 : Int) ≤ (i : Int) := Int.natCast_nonneg _
      have hk1 : (i : Int) < (l.length : Int) := by omega
      have hk2 : (i : Int) < 9 := by omega
      have HX := hid (sv_at2 hx)
      clear hx
      go_wp2_with fail
      go_loopw [9, 10] (fun v9 v10 wr2 => ∃ (k : Nat) (y : List UInt8), k ≤ x.length ∧ k ≤ 20 ∧ v9 = .string (str y) ∧ v10 = .int .i64 k ∧ y.length ≤ k ∧ (∀ c ∈ y, okB2 c = true) ∧ Below w.heap.size w wr2) (fun _ v10 _ => 20 - (intOf v10).toNat)
      case atStart => exact ⟨0, [], Nat.zero_le _, by decide, rfl, rfl, by decide, by simp, HBE.out⟩
      case round =>
        obtain ⟨k, y, hk, hk20, rfl, rfl, hyl, hyo, hbel2⟩ := hrel
        have HB2 := hid hbel2
        have HYO := hid hyo
        clear hbel2 hyo
        have hld := (HS.out.below HB2.out).2 p rfl i _ HX.out
        have hzy := str_size y
        have hq0 : (0 : Int) ≤ (k : Int) := Int.natCast_nonneg _
        by_cases hgo2 : k < x.length ∧ k < 20
        · obtain ⟨hkx, hk20b⟩ := hgo2
          obtain ⟨c, hc⟩ : ∃ c, x[k]? = some c := ⟨_, List.getElem?_eq_getElem hkx⟩
          have hix := str_ix hc
          have hq1 : (k : Int) < (x.length : Int) := by omega
          have hq2 : (k : Int) < 20 := by omega
          have hz1 : (str [c]).size = 1 := str_size [c]
          have cv := fun W => conv_one W c c.toNat rfl
          have hap : str y ++ str [c] = str (y ++ [c]) := str_append _ _
          clear hc
          by_cases hcl : 97 ≤ c.toNat ∧ c.toNat ≤ 122
          · obtain ⟨hc1, hc2⟩ := hcl
            have hc3 : (97 : Int) ≤ (c.toNat : Int) := by omega
            have hc4 : (c.toNat : Int) ≤ 122 := by omega
            go_wp2_with fail
            go_roundw
            case rel => exact ⟨k + 1, y ++ [c], by omega, by omega, by first | rfl | rw [hap], by go_num, (by simp; omega), okB2_snoc HYO.out (by simp [okB2, hc1, hc2]), HB2.out.alloc HB2.out.size _⟩
            case measure => (simp [intOf]) <;> omega
          · by_cases h46 : c = 46
            · have e1 : ((c.toNat : Int) == 46) = true := by rw [h46]; rfl
              have hc3 : (c.toNat : Int) < 97 := by rw [h46]; decide
              have H46 := hid h46
              clear h46
              go_wp2_with fail
              go_roundw
              case rel => exact ⟨k + 1, y ++ [c], by omega, by omega, by first | rfl | rw [hap], by go_num, (by simp; omega), okB2_snoc HYO.out (by simp [okB2, H46.out]), HB2.out.alloc HB2.out.size _⟩
              case measure => (simp [intOf]) <;> omega
            · have e1 : ((c.toNat : Int) == 46) = false := by
                rw [Bool.eq_false_iff]; intro h; rw [beq_iff_eq] at h
                exact h46 (UInt8.toNat_inj.1 (by have : (46 : UInt8).toNat = 46 := rfl; omega))
              by_cases hc5 : c.toNat < 97
              · have hc6 : (c.toNat : Int) < 97 := by omega
                go_wp2_with fail
                go_roundw
                case rel => exact ⟨k + 1, y, by omega, by omega, rfl, by go_num, by omega, HYO.out, HB2.out⟩
                case measure => (simp [intOf]) <;> omega
              · have hc6 : (97 : Int) ≤ (c.toNat : Int) := by omega
                have hc7 : (122 : Int) < (c.toNat : Int) := by omega
                go_wp2_with fail
                go_roundw
                case rel => exact ⟨k + 1, y, by omega, by omega, rfl, by go_num, by omega, HYO.out, HB2.out⟩
                case measure => (simp [intOf]) <;> omega
        · have hex : (x.length ≤ k) ∨ (k < x.length ∧ 20 ≤ k) := by omega
          clear hgo2
          rcases hex with hex | ⟨hex, hex2⟩
          all_goals
            by_cases hy : y = []
            · have e1 : (y == []) = true := by simpa using hy
              clear hy
              go_wp2_with fail
              go_roundw
              case rel => exact ⟨i + 1, ph, T, N, by omega, by omega, by go_num, rfl, rfl, HPH.out, by omega, by omega, by omega, HB2.out⟩
              case measure => (simp [intOf]) <;> omega
            · have e1 : (y == []) = false := by simpa using hy
              have hwd : ∀ m, okWd (y, m) = true := fun m => okWd_of HYO.out hy
              obtain ⟨T2, N2, hor⟩ : ∃ T2 N2 : List UInt8, ((N.isEmpty = true ∧ str T ++ str y = str T2 ∧ str N ++ str y = str N2) ∨ (N.isEmpty = false ∧ str T ++ { data := #[32] } ++ str y = str T2 ∧ str N ++ { data := #[32] } ++ str y = str N2)) ∧ (T2.length ≤ 26 * i + 21 ∧ N2.length ≤ 26 * i + 21 ∧ ∀ m, PhR (ph ++ [(y, m)]) (T2 ++ List.replicate m 9) N2) := by
                by_cases hp : ph = []
                · subst hp
                  obtain ⟨rfl, rfl⟩ := HPH.out.zero
                  exact ⟨y, y, .inl ⟨rfl, by rw [str_append]; rfl, by rw [str_append]; rfl⟩, by omega, by omega, fun m => PhR.first (hwd m)⟩
                · have hN : N ≠ [] := by rw [HPH.out.nam]; exact nm_ne hp HPH.out.ok
                  refine ⟨T ++ [32] ++ y, N ++ [32] ++ y, .inr ⟨by simpa using hN, ?_, ?_⟩, by simp; omega, by simp; omega, fun m => HPH.out.more hp (hwd m)⟩
                  · show str T ++ str [32] ++ str y = _; rw [str_append, str_append]
                  · show str N ++ str [32] ++ str y = _; rw [str_append, str_append]
              obtain ⟨hway, hT2, hN2, hall⟩ := hor
              have HALL := hid hall
              have hzT2 := str_size T2
              have hzy := str_size y
              clear hall hy hwd
              rcases hway with ⟨en, eT, eN⟩ | ⟨en, eT, eN⟩
              all_goals
                go_wp2_with fail
                go_loop [6, 12] (fun v6 v12 => ∃ m : Nat, m ≤ 5 ∧ v12 = .int .i64 m ∧ v6 = .string (str (T2 ++ List.replicate m 9))) (fun _ v12 => 5 - (intOf v12).toNat)
                case atStart => exact ⟨0, by decide, rfl, by rw [List.replicate_zero, List.append_nil]⟩
                case round =>
                  obtain ⟨m, hm, rfl, rfl⟩ := hrel
                  have hzm := str_size (T2 ++ List.replicate m 9)
                  have hzl : (T2 ++ List.replicate m (9 : UInt8)).length = T2.length + m := by simp
                  by_cases hib : i < bl.length
                  · obtain ⟨z, hz⟩ : ∃ z, bl[i]? = some z := ⟨_, List.getElem?_eq_getElem hib⟩
                    obtain ⟨p2, rfl⟩ := src_some HS2.out (by intro e; have := congrArg List.length e; simp [iv] at this; subst this; simp at hib)
                    have hld2 := (HS2.out.below HB2.out).2 p2 rfl i _ (iv_at hz)
                    have hb1 : (i : Int) < (bl.length : Int) := by omega
                    clear hz
                    by_cases hmz : (m : Int) < z
                    · by_cases hm5 : m < 5
                      · have hm6 : (m : Int) < 5 := by omega
                        have htab : str (T2 ++ List.replicate m 9) ++ { data := #[9] } = str (T2 ++ List.replicate (m + 1) 9) := by
                          show str _ ++ str [9] = _
                          rw [str_append, List.replicate_succ', List.append_assoc]
                        go_wp2_with fail
                        go_round
                        case rel => exact ⟨m + 1, by omega, by go_num, by first | rfl | rw [htab]⟩
                        case measure => (simp [intOf]) <;> omega
                      · have hm6 : (5 : Int) ≤ (m : Int) := by omega
                        go_wp2_with fail
                        go_roundw
                        case rel => exact ⟨i + 1, ph ++ [(y, m)], T2 ++ List.replicate m 9, N2, by omega, by omega, by go_num, rfl, by first | rfl | rw [eN], HALL.out m, by simp; omega, by omega, by omega, HB2.out⟩
                        case measure => (simp [intOf]) <;> omega
                    · have hmz2 : z ≤ (m : Int) := by omega
                      clear hmz
                      go_wp2_with fail
                      go_roundw
                      case rel => exact ⟨i + 1, ph ++ [(y, m)], T2 ++ List.replicate m 9, N2, by omega, by omega, by go_num, rfl, by first | rfl | rw [eN], HALL.out m, by simp; omega, by omega, by omega, HB2.out⟩
                      case measure => (simp [intOf]) <;> omega
                  · have hb1 : (bl.length : Int) ≤ (i : Int) := by omega
                    clear hib
                    go_wp2_with fail
                    go_roundw
                    case rel => exact ⟨i + 1, ph ++ [(y, m)], T2 ++ List.replicate m 9, N2, by omega, by omega, by go_num, rfl, by first | rfl | rw [eN], HALL.out m, by simp; omega, by omega, by omega, HB2.out⟩
                    case measure => (simp [intOf]) <;> omega
    · have hex : (l.length ≤ i) ∨ (i < l.length ∧ 9 ≤ i) := by omega
      clear hgo
      rcases hex with hex | ⟨hex, hex2⟩
      all_goals
        by_cases hp : ph = []
        · have e1 : N.isEmpty = true := by rw [((show PhR [] T N by rw [← hp]; exact HPH.out).zero).2]; rfl
          have e2 : (N == []) = true := by simpa using e1
          clear hp
          go_wp2_with fail
          go_ret
          exact ⟨by first | rfl | simp, HBE.out⟩
        · have hN : N ≠ [] := by rw [HPH.out.nam]; exact nm_ne hp HPH.out.ok
          have e1 : (N == []) = false := by simpa using hN
          have e2 : N.isEmpty = false := by simpa using hN
          have hap : str T ++ { data := #[32, 60, 120, 64, 121, 46, 122, 62] } = str (wdT ph ++ tail0) := by
            rw [← HPH.out.last hp]
            show str T ++ str [32, 60, 120, 64, 121, 46, 122, 62] = _
            rw [str_append]
          have hzl : (wdT ph ++ tail0).length ≤ 1000000 := by rw [← HPH.out.last hp]; simp; omega
          have hasc : Ascii (wdT ph ++ tail0) := by
            intro c hc
            rcases List.mem_append.1 hc with h | h
            · exact wdT_bytes HPH.out.ok c h
            · exact (show ∀ c ∈ tail0, c.toNat < 128 by unfold tail0; decide) c h
          have hli := fun V g g0 => list_any 1 20 (wdT ph ++ tail0) V _ _ (phrase_read hp HPH.out.ok (by omega)) g g0 hasc (by decide) (by decide) hzl
          rw [← HPH.out.nam, ← hap] at hli
          clear hap hasc hzl hN hp
          have hl3 : ∀ V, GoodA V → 0 < V.heap.size → Calls Tryd.prog 8 #[.string (str T ++ { data := #[32, 60, 120, 64, 121, 46, 122, 62] })] V fun e w' => ∃ g c, e = .returned (.tuple #[.slice (some ⟨g, 0, none⟩) 1 c, .int .i64 0]) ∧ w'.cell? ⟨g, 0, none⟩ = some (.string (str N)) ∧ w'.cell? ⟨g, 1, none⟩ = some (.string { data := #[120] }) ∧ w'.cell? ⟨g, 2, none⟩ = some (.string { data := #[121, 46, 122] }) ∧ Below V.heap.size V w' := by
            intro V g g0
            refine (hli V g g0).mono ?_
            rintro e w' ⟨v, rfl, hb, hlow⟩
            obtain ⟨A7, c7, rfl, -, hA, hc⟩ := hb.full
            cases A7 with
            | none => cases hA rfl
            | some p7 =>
              obtain ⟨g7, rfl, hcell⟩ := hc p7 rfl
              obtain ⟨k0, k1, k2⟩ := hcell 0 _ rfl
              exact ⟨g7, c7, rfl, k0, k1, k2, hlow⟩
          clear hli
          go_wp2_with (go_at_call 8; refine (hl3 _ (hG.below HBE.out) (Nat.lt_of_lt_of_le h0 HBE.out.size)).mono ?_; rintro e w7 ⟨g7, k7, rfl, x0, x1, x2, c7⟩; have b7 := below_then HBE.out c7; have B7 := hid (b7.alloc b7.size (.cells #[.string (str N), .string { data := #[120] }, .string { data := #[121, 46, 122] }] 31)); have y0 := keep_below ((Below.refl _ _).alloc (Nat.le_refl _) (.cells #[.string (str N), .string { data := #[120] }, .string { data := #[121, 46, 122] }] 31)) rfl x0; have y1 := keep_below ((Below.refl _ _).alloc (Nat.le_refl _) (.cells #[.string (str N), .string { data := #[120] }, .string { data := #[121, 46, 122] }] 31)) rfl x1; have y2 := keep_below ((Below.refl _ _).alloc (Nat.le_refl _) (.cells #[.string (str N), .string { data := #[120] }, .string { data := #[121, 46, 122] }] 31)) rfl x2; have z0 : (w7.alloc (.cells #[.string (str N), .string { data := #[120] }, .string { data := #[121, 46, 122] }] 31)).cell? ⟨w7.heap.size, 0, none⟩ = some (.string (str N)) := box_at _ _ _ _ 0 _ rfl; have z1 : (w7.alloc (.cells #[.string (str N), .string { data := #[120] }, .string { data := #[121, 46, 122] }] 31)).cell? ⟨w7.heap.size, 1, none⟩ = some (.string { data := #[120] }) := box_at _ _ _ _ 1 _ rfl; have z2 : (w7.alloc (.cells #[.string (str N), .string { data := #[120] }, .string { data := #[121, 46, 122] }] 31)).cell? ⟨w7.heap.size, 2, none⟩ = some (.string { data := #[121, 46, 122] }) := box_at _ _ _ _ 2 _ rfl; clear c7 b7)
          go_quiet (fail)
          go_step
          go_step
          go_wp2_with fail
          go_ret
          exact ⟨by first | rfl | simp, below_dn2 B7.out _⟩

end Go.Proofs.YtmgndnbcaeepcaaDoor
