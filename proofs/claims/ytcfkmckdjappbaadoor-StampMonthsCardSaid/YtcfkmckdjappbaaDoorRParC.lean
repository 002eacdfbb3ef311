/-
  Parse of the reference: the month's search and what follows.
-/
import Derived.Test.YtcfkmckdjappbaaDoorRPar1
namespace Go.Proofs.YtcfkmckdjappbaaDoor
open Go.RowKit Own
set_option linter.unusedVariables false
set_option linter.unusedSimpArgs false
set_option maxRecDepth 100000

/-- The code behind the first statements. -/
def dropS : Nat → Code → Code
  | 0, c => c
  | n + 1, .seq _ b => dropS n b
  | _, c => c
noncomputable def rbody : Code := Tryd.f19.body.getD .skip

attribute [local go_sem] str_toList str_size

set_option maxHeartbeats 4000000 in
theorem rparse_tail13 (s : ByteArray) (w w1 : World) (c0 c21 : UInt8) (q3 : List UInt8) (xdq xq7 xq12 xq15 xq18 xq22 xq24 : Int) (ydq yq7 yq12 yq15 yq18 yq22 yq24 : Bool) (out : Int × Int) (u1 u2 u3 u5 u20 u21 u22 u23 u24 u25 u26 u27 u28 u29 u30 u31 u32 u33 u34 u35 u36 u37 u38 u39 u40 u41 u42 u43 u44 u45 u46 u47 u48 u49 u50 u51 u52 u53 u54 u55 u56 u57 u58 u59 u60 u61 u62 u63 u64 u65 u66 u67 u68 u69 u70 u71 u72 u73 u74 u75 u76 u77 u78 u79 u80 u81 u82 u83 u84 u85 u86 u87 u88 u89 u90 u91 u92 u93 u94 u95 u96 u97 u98 u99 u100 u101 u102 u103 u104 u105 u106 u107 u108 u109 u110 u111 u112 u113 u114 u115 u116 u117 u118 u119 u120 u121 u122 u123 u124 u125 u126 u127 u128 u129 u130 u131 u132 u133 u134 u135 u136 u137 u138 u139 u140 u141 u142 u143 u144 u145 u146 u147 u148 u149 u150 u151 u152 u153 u154 u155 u156 u157 u158 u159 u160 u161 u162 u163 u164 u165 u166 u167 u168 u169 u170 u171 u172 u173 u174 u175 u176 u177 u178 u179 u180 u181 u182 u183 u184 u185 u186 u187 u188 u189 u190 u191 u192 u193 u194 u195 u196 u197 u198 u199 u200 u201 u202 u203 u204 u205 u206 u207 : Value)
    (hs : s.size = 26) (s3 : s.extract 3 6 = str q3) (i21 : ∀ h, s[21]'h = c21) (HB' : Hid (w1.heap[w.heap.size]? = some (.cells #[.int .i64 0, .int .i64 0, .int .i64 0, .int .i64 0, .int .i64 0, .int .i64 0, .int .i64 0] 24 (0, 0)))) (HBE' : Hid (Below w.heap.size w w1)) (r22 : 0 ≤ xq22 ∧ xq22 ≤ 14) (r24 : 0 ≤ xq24 ∧ xq24 ≤ 59) (ho : out = momP ((secPair xq7 (lastM q3 12) xdq xq12 xq15 xq18).1 + (if c21 = 43 then -(xq22 * 3600 + xq24 * 60) else xq22 * 3600 + xq24 * 60)) (secPair xq7 (lastM q3 12) xdq xq12 xq15 xq18).2) :
    Code.wp Tryd.prog (dropS 13 rbody) (bodyPost Tryd.prog Tryd.f19 (fun e w' => e = .returned (parseV out) ∧ Below w.heap.size w w')) ⟨List.toArray ((.string s) :: u1 :: u2 :: u3 :: (.pointer (some ⟨w.heap.size, 0, none⟩)) :: u5 :: (.int .i64 xdq) :: (.bool ydq) :: (.int .i64 xq7) :: (.bool yq7) :: (.int .i64 xq12) :: (.bool yq12) :: (.int .i64 xq15) :: (.bool yq15) :: (.int .i64 xq18) :: (.bool yq18) :: (.int .i64 xq22) :: (.bool yq22) :: (.int .i64 xq24) :: (.bool yq24) :: u20 :: u21 :: u22 :: u23 :: u24 :: u25 :: u26 :: u27 :: u28 :: u29 :: u30 :: u31 :: u32 :: u33 :: u34 :: u35 :: u36 :: u37 :: u38 :: u39 :: u40 :: u41 :: u42 :: u43 :: u44 :: u45 :: u46 :: u47 :: u48 :: u49 :: u50 :: u51 :: u52 :: u53 :: u54 :: u55 :: u56 :: u57 :: u58 :: u59 :: u60 :: u61 :: u62 :: u63 :: u64 :: u65 :: u66 :: u67 :: u68 :: u69 :: u70 :: u71 :: u72 :: u73 :: u74 :: u75 :: u76 :: u77 :: u78 :: u79 :: u80 :: u81 :: u82 :: u83 :: u84 :: u85 :: u86 :: u87 :: u88 :: u89 :: u90 :: u91 :: u92 :: u93 :: u94 :: u95 :: u96 :: u97 :: u98 :: u99 :: u100 :: u101 :: u102 :: u103 :: u104 :: u105 :: u106 :: u107 :: u108 :: u109 :: u110 :: u111 :: u112 :: u113 :: u114 :: u115 :: u116 :: u117 :: u118 :: u119 :: u120 :: u121 :: u122 :: u123 :: u124 :: u125 :: u126 :: u127 :: u128 :: u129 :: u130 :: u131 :: u132 :: u133 :: u134 :: u135 :: u136 :: u137 :: u138 :: u139 :: u140 :: u141 :: u142 :: u143 :: u144 :: u145 :: u146 :: u147 :: u148 :: u149 :: u150 :: u151 :: u152 :: u153 :: u154 :: u155 :: u156 :: u157 :: u158 :: u159 :: u160 :: u161 :: u162 :: u163 :: u164 :: u165 :: u166 :: u167 :: u168 :: u169 :: u170 :: u171 :: u172 :: u173 :: u174 :: u175 :: u176 :: u177 :: u178 :: u179 :: u180 :: u181 :: u182 :: u183 :: u184 :: u185 :: u186 :: u187 :: u188 :: u189 :: u190 :: u191 :: u192 :: u193 :: u194 :: u195 :: u196 :: u197 :: u198 :: u199 :: u200 :: u201 :: u202 :: u203 :: u204 :: u205 :: u206 :: u207 :: []), []⟩ w1 := by
  conv => arg 2; whnf
  go_wp2_with fail
  go_loopw [20] (fun v20 wr => ∃ i : Nat, i ≤ 12 ∧ v20 = .int .i64 ((i : Int) + 1) ∧ wr.heap[w.heap.size]? = some (.cells #[.int .i64 0, .int .i64 (lastM q3 i), .int .i64 0, .int .i64 0, .int .i64 0, .int .i64 0, .int .i64 0] 24 (0, 0)) ∧ Below w.heap.size w wr) (fun v20 _ => 14 - (intOf v20).toNat)
  case atStart => exact ⟨0, by omega, rfl, HB'.out, HBE'.out⟩
  case round =>
    obtain ⟨i, hi, rfl, hB, hbel⟩ := hrel
    have HB := hid hB
    have HBE := hid hbel
    have f1 := free_at hB 1
    have c1 := cells_at hB 1
    clear hB hbel
    by_cases hil : i < 12
    · have e1 : decide ((i : Int) + 1 ≤ 12) = true := decide_eq_true (by omega)
      obtain ⟨mo, hmo⟩ : ∃ mo, mo = (i : Int) + 1 := ⟨_, rfl⟩
      have hmr : 1 ≤ mo ∧ mo ≤ 12 := by omega
      have hmon : ∀ w', Calls Tryd.prog 27 #[.int .i64 ((i : Int) + 1)] w' fun e w2 => e = .returned (.string (monB mo)) ∧ w' = w2 := by
        intro w'; rw [← hmo]; exact month_any mo w' hmr
      have hlast : lastM q3 (i + 1) = if monB mo = str q3 then mo else lastM q3 i := by
        rw [hmo]; rfl
      have HL := hid hlast
      have HMO := hid hmo
      clear hlast hmo
      by_cases hq : monB mo = str q3
      · have e2 : ((monB mo).toList == q3) = true := by rw [hq, str_toList]; simp
        have hlast : lastM q3 (i + 1) = mo := by rw [HL.out, if_pos hq]
        have HLA := hid hlast
        clear hq hlast HL
        generalize monB mo = mb at *
        go_wp2_with fail
        go_quiet ((go_at_call 27; exact Calls.quiet_of_same ((hmon _).mono fun _ _ ⟨he, hw⟩ => ⟨he, hw.symm⟩)))
        go_wp2
        refine ⟨⟨i + 1, by omega, by simp, ?_, (below_drewN HBE.out nq).setCell (by simp) _⟩, by simp [intOf]; omega⟩
        have hB2 := block_set (w := wr.drewN nq) HB.out 1 (.int .i64 ((i : Int) + 1))
        rw [HLA.out, HMO.out]
        simpa using hB2
      · have e2 : ((monB mo).toList == q3) = false := by
          rw [beq_eq_false_iff_ne]
          intro h2
          apply hq
          rw [← h2, ByteArray.toList_eq]
          rfl
        have hlast : lastM q3 (i + 1) = lastM q3 i := by rw [HL.out, if_neg hq]
        have HLA := hid hlast
        clear hq hlast HL
        generalize monB mo = mb at *
        go_wp2_with fail
        go_quiet ((go_at_call 27; exact Calls.quiet_of_same ((hmon _).mono fun _ _ ⟨he, hw⟩ => ⟨he, hw.symm⟩)))
        go_wp2
        refine ⟨⟨i + 1, by omega, by simp, ?_, below_drewN HBE.out nq⟩, by simp [intOf]; omega⟩
        rw [HLA.out]
        exact HB.out
    · have e1 : decide ((i : Int) + 1 ≤ 12) = false := decide_eq_false (by omega)
      have hi2 : i = 12 := by omega
      subst hi2
      have HB12 : wr.heap[w.heap.size]? = some (.cells #[.int .i64 0, .int .i64 (lastM q3 12), .int .i64 0, .int .i64 0, .int .i64 0, .int .i64 0, .int .i64 0] 24 (0, 0)) := HB.out
      clear hi hil
      generalize lastM q3 12 = mo at *
      have f0 := free_at HB12 0
      have f2 := free_at HB12 2
      have f3 := free_at HB12 3
      have f4 := free_at HB12 4
      have f5 := free_at HB12 5
      have c0' := cells_at HB12 0
      have c2 := cells_at HB12 2
      have c3 := cells_at HB12 3
      have c4 := cells_at HB12 4
      have c5 := cells_at HB12 5
      have c6 := cells_at HB12 6
      clear HB12
      rcases hsp : secPair xq7 mo xdq xq12 xq15 xq18 with ⟨sn, sok⟩
      have bs : -40000000000 ≤ sn ∧ sn ≤ 40000000000 := by
        have := secPair_rng xq7 mo xdq xq12 xq15 xq18
        rw [hsp] at this
        exact this
      have hat := fun w' => at_any xq7 mo xdq xq12 xq15 xq18 0 w'
      rw [hsp] at hat ho
      unfold time7 at hat
      have HO := hid ho
      clear hsp ho
      go_upto_region 27 with ((go_at_call 35; refine (hat _).mono ?_; rintro e w5 ⟨rfl, hb5⟩))
      have hb6 := below_then (((((HBE.out.setCell (p := ⟨w.heap.size, 0, none⟩) (by simp) _).setCell (p := ⟨w.heap.size, 2, none⟩) (by simp) _).setCell (p := ⟨w.heap.size, 3, none⟩) (by simp) _).setCell (p := ⟨w.heap.size, 4, none⟩) (by simp) _).setCell (p := ⟨w.heap.size, 5, none⟩) (by simp) _) hb5
      clear f0 f2 f3 f4 f5 c0' c1 c2 c3 c4 c5 c6 f1 hat HB HBE HB' HBE' hb5 s3
      obtain ⟨n, hn⟩ : ∃ n, n = sn + (if c21 = 43 then -(xq22 * 3600 + xq24 * 60) else xq22 * 3600 + xq24 * 60) := ⟨_, rfl⟩
      have hout : out = momP n sok := by rw [hn]; exact HO.out
      have HOUT := hid hout
      have HN := hid hn
      clear HO hn hout
      have hi21 := i21 (by omega)
      clear i21
      go_upto_if 182 with fail
      clear hi21 hs
      go_cut [21] (fun v21 wx => v21 = .int .i64 n ∧ w5 = wx)
      case first =>
        by_cases c : c21 = 43
        · have hc : ((c21.toNat : Int) == 43) = true := by rw [c]; rfl
          have hn := HN.out
          rw [if_pos c] at hn
          have HN2 := hid hn
          clear c hn
          go_wp2
          go_meet
          case rel => exact ⟨by rw [HN2.out]; go_num, rfl⟩
        · have hc : ((c21.toNat : Int) == 43) = false := by simpa using u8_ne c21 43 43 rfl c
          have hn := HN.out
          rw [if_neg c] at hn
          have HN2 := hid hn
          clear c hn
          go_wp2
          go_meet
          case rel => exact ⟨by rw [HN2.out]; go_num, rfl⟩
      case rest =>
      obtain ⟨rfl, rfl⟩ := hcut
      clear HN bs r22 r24
      cases sok with
      | false =>
        have hm : out = (0, 80) := by rw [HOUT.out]; simp [momP]
        go_wp2
        exact bodyPost_ret (v := .tuple #[.int .i64 0, .int .i64 80]) (by simp [results, Tryd.results19, go_sem]) rfl ⟨by first | rfl | (rw [hm]; rfl), hb6⟩
      | true =>
        by_cases h0 : n < 0
        · have e0 : decide (n < 0) = true := decide_eq_true h0
          have hm : out = (0, 80) := by rw [HOUT.out]; unfold momP; rw [if_neg (by omega)]
          go_wp2
          exact bodyPost_ret (v := .tuple #[.int .i64 0, .int .i64 80]) (by simp [results, Tryd.results19, go_sem]) rfl ⟨by first | rfl | (rw [hm]; rfl), hb6⟩
        · have e0 : decide (n < 0) = false := decide_eq_false h0
          by_cases h1 : 4294967296 ≤ n
          · have e1 : decide (4294967296 ≤ n) = true := decide_eq_true h1
            have hm : out = (0, 80) := by rw [HOUT.out]; unfold momP; rw [if_neg (by omega)]
            go_wp2
            exact bodyPost_ret (v := .tuple #[.int .i64 0, .int .i64 80]) (by simp [results, Tryd.results19, go_sem]) rfl ⟨by first | rfl | (rw [hm]; rfl), hb6⟩
          · have e1 : decide (4294967296 ≤ n) = false := decide_eq_false h1
            have hm : out = (n, 0) := by rw [HOUT.out]; unfold momP; rw [if_pos (by simp; omega)]
            go_wp2
            exact bodyPost_ret (v := .tuple #[.int .i64 n, .int .i64 0]) (by simp [results, Tryd.results19, go_sem]) rfl ⟨by first | rfl | (rw [hm]; rfl), hb6⟩

end Go.Proofs.YtcfkmckdjappbaaDoor
