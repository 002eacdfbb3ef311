/-
  Parse of the reference: its second test.
-/
import Derived.Test.YtcfkmckdjappbaaDoorRParC
namespace Go.Proofs.YtcfkmckdjappbaaDoor
open Go.RowKit Own
set_option linter.unusedVariables false
set_option linter.unusedSimpArgs false
set_option maxRecDepth 100000

set_option maxHeartbeats 4000000 in
theorem rparse_tail12 (s : ByteArray) (w w1 : World) (c0 c21 : UInt8) (q3 : List UInt8) (xdq xq7 xq12 xq15 xq18 xq22 xq24 : Int) (ydq yq7 yq12 yq15 yq18 yq22 yq24 : Bool) (out : Int × Int) (u1 u2 u3 u5 u20 u21 u22 u23 u24 u25 u26 u27 u28 u29 u30 u31 u32 u33 u34 u35 u36 u37 u38 u39 u40 u41 u42 u43 u44 u45 u46 u47 u48 u49 u50 u51 u52 u53 u54 u55 u56 u57 u58 u59 u60 u61 u62 u63 u64 u65 u66 u67 u68 u69 u70 u71 u72 u73 u74 u75 u76 u77 u78 u79 u80 u81 u82 u83 u84 u85 u86 u87 u88 u89 u90 u91 u92 u93 u94 u95 u96 u97 u98 u99 u100 u101 u102 u103 u104 u105 u106 u107 u108 u109 u110 u111 u112 u113 u114 u115 u116 u117 u118 u119 u120 u121 u122 u123 u124 u125 u126 u127 u128 u129 u130 u131 u132 u133 u134 u135 u136 u137 u138 u139 u140 u141 u142 u143 u144 u145 u146 u147 u148 u149 u150 u151 u152 u153 u154 u155 u156 u157 u158 u159 u160 u161 u162 u163 u164 u165 u166 u167 u168 u169 u170 u171 u172 u173 u174 u175 u176 u177 u178 u179 u180 u181 u182 u183 u184 u185 u186 u187 u188 u189 u190 u191 u192 u193 u194 u195 u196 u197 u198 u199 u200 u201 u202 u203 u204 u205 u206 u207 : Value)
    (hs : s.size = 26) (s3 : s.extract 3 6 = str q3) (i21 : ∀ h, s[21]'h = c21) (HB' : Hid (w1.heap[w.heap.size]? = some (.cells #[.int .i64 0, .int .i64 0, .int .i64 0, .int .i64 0, .int .i64 0, .int .i64 0, .int .i64 0] 24 (0, 0)))) (HBE' : Hid (Below w.heap.size w w1)) (i0 : ∀ h, s[0]'h = c0) (r22 : 0 ≤ xq22 ∧ xq22 ≤ 100000000) (r24 : 0 ≤ xq24 ∧ xq24 ≤ 100000000) (ho : out = if (!ydq || !yq7 || !yq12 || !yq15 || !yq18 || !yq22 || !yq24 || (c0 == 48) || decide (14 < xq22) || decide (59 < xq24)) = true then ((0 : Int), (80 : Int)) else momP ((secPair xq7 (lastM q3 12) xdq xq12 xq15 xq18).1 + (if c21 = 43 then -(xq22 * 3600 + xq24 * 60) else xq22 * 3600 + xq24 * 60)) (secPair xq7 (lastM q3 12) xdq xq12 xq15 xq18).2) :
    Code.wp Tryd.prog (dropS 12 rbody) (bodyPost Tryd.prog Tryd.f19 (fun e w' => e = .returned (parseV out) ∧ Below w.heap.size w w')) ⟨List.toArray ((.string s) :: u1 :: u2 :: u3 :: (.pointer (some ⟨w.heap.size, 0, none⟩)) :: u5 :: (.int .i64 xdq) :: (.bool ydq) :: (.int .i64 xq7) :: (.bool yq7) :: (.int .i64 xq12) :: (.bool yq12) :: (.int .i64 xq15) :: (.bool yq15) :: (.int .i64 xq18) :: (.bool yq18) :: (.int .i64 xq22) :: (.bool yq22) :: (.int .i64 xq24) :: (.bool yq24) :: u20 :: u21 :: u22 :: u23 :: u24 :: u25 :: u26 :: u27 :: u28 :: u29 :: u30 :: u31 :: u32 :: u33 :: u34 :: u35 :: u36 :: u37 :: u38 :: u39 :: u40 :: u41 :: u42 :: u43 :: u44 :: u45 :: u46 :: u47 :: u48 :: u49 :: u50 :: u51 :: u52 :: u53 :: u54 :: u55 :: u56 :: u57 :: u58 :: u59 :: u60 :: u61 :: u62 :: u63 :: u64 :: u65 :: u66 :: u67 :: u68 :: u69 :: u70 :: u71 :: u72 :: u73 :: u74 :: u75 :: u76 :: u77 :: u78 :: u79 :: u80 :: u81 :: u82 :: u83 :: u84 :: u85 :: u86 :: u87 :: u88 :: u89 :: u90 :: u91 :: u92 :: u93 :: u94 :: u95 :: u96 :: u97 :: u98 :: u99 :: u100 :: u101 :: u102 :: u103 :: u104 :: u105 :: u106 :: u107 :: u108 :: u109 :: u110 :: u111 :: u112 :: u113 :: u114 :: u115 :: u116 :: u117 :: u118 :: u119 :: u120 :: u121 :: u122 :: u123 :: u124 :: u125 :: u126 :: u127 :: u128 :: u129 :: u130 :: u131 :: u132 :: u133 :: u134 :: u135 :: u136 :: u137 :: u138 :: u139 :: u140 :: u141 :: u142 :: u143 :: u144 :: u145 :: u146 :: u147 :: u148 :: u149 :: u150 :: u151 :: u152 :: u153 :: u154 :: u155 :: u156 :: u157 :: u158 :: u159 :: u160 :: u161 :: u162 :: u163 :: u164 :: u165 :: u166 :: u167 :: u168 :: u169 :: u170 :: u171 :: u172 :: u173 :: u174 :: u175 :: u176 :: u177 :: u178 :: u179 :: u180 :: u181 :: u182 :: u183 :: u184 :: u185 :: u186 :: u187 :: u188 :: u189 :: u190 :: u191 :: u192 :: u193 :: u194 :: u195 :: u196 :: u197 :: u198 :: u199 :: u200 :: u201 :: u202 :: u203 :: u204 :: u205 :: u206 :: u207 :: []), []⟩ w1 := by
  have HO := hid ho
  clear ho
  cases ydq with
  | false =>
    have hm : out = (0, 80) := by rw [HO.out, if_pos (by simp)]
    clear HO s3 i21 i0
    conv => arg 2; whnf
    go_wp2
    exact bodyPost_ret (v := .tuple #[.int .i64 0, .int .i64 80]) (by simp [results, Tryd.results19, go_sem]) rfl ⟨by first | rfl | (rw [hm]; rfl), HBE'.out⟩
  | true =>
  cases yq7 with
  | false =>
    have hm : out = (0, 80) := by rw [HO.out, if_pos (by simp)]
    clear HO s3 i21 i0
    conv => arg 2; whnf
    go_wp2
    exact bodyPost_ret (v := .tuple #[.int .i64 0, .int .i64 80]) (by simp [results, Tryd.results19, go_sem]) rfl ⟨by first | rfl | (rw [hm]; rfl), HBE'.out⟩
  | true =>
  cases yq12 with
  | false =>
    have hm : out = (0, 80) := by rw [HO.out, if_pos (by simp)]
    clear HO s3 i21 i0
    conv => arg 2; whnf
    go_wp2
    exact bodyPost_ret (v := .tuple #[.int .i64 0, .int .i64 80]) (by simp [results, Tryd.results19, go_sem]) rfl ⟨by first | rfl | (rw [hm]; rfl), HBE'.out⟩
  | true =>
  cases yq15 with
  | false =>
    have hm : out = (0, 80) := by rw [HO.out, if_pos (by simp)]
    clear HO s3 i21 i0
    conv => arg 2; whnf
    go_wp2
    exact bodyPost_ret (v := .tuple #[.int .i64 0, .int .i64 80]) (by simp [results, Tryd.results19, go_sem]) rfl ⟨by first | rfl | (rw [hm]; rfl), HBE'.out⟩
  | true =>
  cases yq18 with
  | false =>
    have hm : out = (0, 80) := by rw [HO.out, if_pos (by simp)]
    clear HO s3 i21 i0
    conv => arg 2; whnf
    go_wp2
    exact bodyPost_ret (v := .tuple #[.int .i64 0, .int .i64 80]) (by simp [results, Tryd.results19, go_sem]) rfl ⟨by first | rfl | (rw [hm]; rfl), HBE'.out⟩
  | true =>
  cases yq22 with
  | false =>
    have hm : out = (0, 80) := by rw [HO.out, if_pos (by simp)]
    clear HO s3 i21 i0
    conv => arg 2; whnf
    go_wp2
    exact bodyPost_ret (v := .tuple #[.int .i64 0, .int .i64 80]) (by simp [results, Tryd.results19, go_sem]) rfl ⟨by first | rfl | (rw [hm]; rfl), HBE'.out⟩
  | true =>
  cases yq24 with
  | false =>
    have hm : out = (0, 80) := by rw [HO.out, if_pos (by simp)]
    clear HO s3 i21 i0
    conv => arg 2; whnf
    go_wp2
    exact bodyPost_ret (v := .tuple #[.int .i64 0, .int .i64 80]) (by simp [results, Tryd.results19, go_sem]) rfl ⟨by first | rfl | (rw [hm]; rfl), HBE'.out⟩
  | true =>
  by_cases k0 : c0 = 48
  · have hc : ((c0.toNat : Int) == 48) = true := by rw [k0]; rfl
    have hm : out = (0, 80) := by rw [HO.out, if_pos (by simp [k0])]
    clear HO s3 i21 k0
    conv => arg 2; whnf
    go_wp2
    exact bodyPost_ret (v := .tuple #[.int .i64 0, .int .i64 80]) (by simp [results, Tryd.results19, go_sem]) rfl ⟨by first | rfl | (rw [hm]; rfl), HBE'.out⟩
  have hc : ((c0.toNat : Int) == 48) = false := by simpa using u8_ne c0 48 48 rfl k0
  by_cases k1 : 14 < xq22
  · have hk1 : decide (14 < xq22) = true := decide_eq_true k1
    have hm : out = (0, 80) := by rw [HO.out, if_pos (by simp [k1])]
    clear HO s3 i21 k0 k1
    conv => arg 2; whnf
    go_wp2
    exact bodyPost_ret (v := .tuple #[.int .i64 0, .int .i64 80]) (by simp [results, Tryd.results19, go_sem]) rfl ⟨by first | rfl | (rw [hm]; rfl), HBE'.out⟩
  have hk1 : decide (14 < xq22) = false := decide_eq_false k1
  by_cases k2 : 59 < xq24
  · have hk2 : decide (59 < xq24) = true := decide_eq_true k2
    have hm : out = (0, 80) := by rw [HO.out, if_pos (by simp [k2])]
    clear HO s3 i21 k0 k1 k2
    conv => arg 2; whnf
    go_wp2
    exact bodyPost_ret (v := .tuple #[.int .i64 0, .int .i64 80]) (by simp [results, Tryd.results19, go_sem]) rfl ⟨by first | rfl | (rw [hm]; rfl), HBE'.out⟩
  have hk2 : decide (59 < xq24) = false := decide_eq_false k2
  have ho2 : out = momP ((secPair xq7 (lastM q3 12) xdq xq12 xq15 xq18).1 + (if c21 = 43 then -(xq22 * 3600 + xq24 * 60) else xq22 * 3600 + xq24 * 60)) (secPair xq7 (lastM q3 12) xdq xq12 xq15 xq18).2 := by
    have := HO.out
    rw [if_neg (by simp [k0]; omega)] at this
    exact this
  have HO2 := hid ho2
  have R22 : 0 ≤ xq22 ∧ xq22 ≤ 14 := by omega
  have R24 : 0 ≤ xq24 ∧ xq24 ≤ 59 := by omega
  have HR := hid (And.intro R22 R24)
  have HS3 := hid s3
  have HI21 := hid i21
  clear ho2 HO k0 k1 k2 R22 R24 r22 r24 s3 i21
  conv => arg 2; whnf
  go_upto_if 153 with fail
  go_cut [153] (fun v153 wx => v153 = .bool false ∧ w1 = wx)
  case first =>
    go_wp2
    go_meet
    case rel => exact ⟨rfl, rfl⟩
  case rest =>
  obtain ⟨rfl, rfl⟩ := hcut
  refine ‹∀ (a : Act) (w : World), Code.wp Tryd.prog _ _ a w → _› _ _ ?_
  exact rparse_tail13 s w w1 c0 c21 q3 _ _ _ _ _ _ _ _ _ _ _ _ _ _ out _ _ _ _ _ _ _ _ _ _ _ _ _ _ _ _ _ _ _ _ _ _ _ _ _ _ _ _ _ _ _ _ _ _ _ _ _ _ _ _ _ _ _ _ _ _ _ _ _ _ _ _ _ _ _ _ _ _ _ _ _ _ _ _ _ _ _ _ _ _ _ _ _ _ _ _ _ _ _ _ _ _ _ _ _ _ _ _ _ _ _ _ _ _ _ _ _ _ _ _ _ _ _ _ _ _ _ _ _ _ _ _ _ _ _ _ _ _ _ _ _ _ _ _ _ _ _ _ _ _ _ _ _ _ _ _ _ _ _ _ _ _ _ _ _ _ _ _ _ _ _ _ _ _ _ _ _ _ _ _ _ _ _ _ _ _ _ _ _ _ _ _ _ _ _ _ _ _ _ _ _ _ _ _ _ _ _ _ _ _ _ _ hs HS3.out HI21.out HB' HBE' HR.out.1 HR.out.2 HO2.out

end Go.Proofs.YtcfkmckdjappbaaDoor
