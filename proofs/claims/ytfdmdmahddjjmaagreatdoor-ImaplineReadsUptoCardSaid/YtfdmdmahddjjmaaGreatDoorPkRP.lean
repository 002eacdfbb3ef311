/-
  Joined texts: StRSec StRPar1 StRParC StRParB StRParA StParEq.
-/
import Derived.Test.YtfdmdmahddjjmaaGreatDoorKStRAt1
import Derived.Test.YtfdmdmahddjjmaaGreatDoorKStRAt2
import Derived.Test.YtfdmdmahddjjmaaGreatDoorKStRAt3
import Derived.Test.YtfdmdmahddjjmaaGreatDoorPkSt2
import Derived.Lib.IndexMore
set_option linter.unusedVariables false
set_option linter.unusedSimpArgs false
set_option maxRecDepth 100000
namespace Go.Proofs.YtfdmdmahddjjmaaGreatDoor.St
open Go.RowKit Own
theorem at_any (y m d h mi s wd:Int) (w:World) :
  Calls Tryz.prog 110 #[.agg (time7 y m d h mi s wd)] w fun e w'=>e = .returned (.tuple #[.int .i64 (secPair y m d h mi s).1,.bool (secPair y m d h mi s).2])∧Below w.heap.size w w':=by
 unfold secPair
 by_cases hv:Valid y m d h mi s
 · rw [if_pos hv];exact at_ok y m d h mi s wd w hv
 · rw [if_neg hv]
   unfold Valid at hv
   by_cases c0:y < 1999
   · exact at_bad0 y m d h mi s wd w c0
   by_cases c1:2137 < y
   · exact at_bad1 y m d h mi s wd w c0 c1
   by_cases c2:m < 1
   · exact at_bad2 y m d h mi s wd w c0 c1 c2
   by_cases c3:12 < m
   · exact at_bad3 y m d h mi s wd w c0 c1 c2 c3
   by_cases c4:d < 1
   · exact at_bad4 y m d h mi s wd w c0 c1 c2 c3 c4
   by_cases c5:Date.mlen y m < d
   · exact at_bad5 y m d h mi s wd w c0 c1 c2 c3 c4 c5
   by_cases c6:h < 0
   · exact at_bad6 y m d h mi s wd w c0 c1 c2 c3 c4 c5 c6
   by_cases c7:23 < h
   · exact at_bad7 y m d h mi s wd w c0 c1 c2 c3 c4 c5 c6 c7
   by_cases c8:mi < 0
   · exact at_bad8 y m d h mi s wd w c0 c1 c2 c3 c4 c5 c6 c7 c8
   by_cases c9:59 < mi
   · exact at_bad9 y m d h mi s wd w c0 c1 c2 c3 c4 c5 c6 c7 c8 c9
   by_cases c10:s < 0
   · exact at_bad10 y m d h mi s wd w c0 c1 c2 c3 c4 c5 c6 c7 c8 c9 c10
   by_cases c11:59 < s
   · exact at_bad11 y m d h mi s wd w c0 c1 c2 c3 c4 c5 c6 c7 c8 c9 c10 c11
   exact absurd (by omega) hv
end Go.Proofs.YtfdmdmahddjjmaaGreatDoor.St
namespace Go.Proofs.YtfdmdmahddjjmaaGreatDoor.St
open Go.RowKit Own
def lastM (q:List UInt8):Nat→Int
 | 0=>0
 | k + 1=>if monB (k + 1:Nat) = str q then (k + 1:Nat) else lastM q k
def dayQ (l:List UInt8):List UInt8:=if l.headD 0 = 32 then sl 1 2 l else sl 0 2 l
def bad1 (c2 c6 c11 c14 c17 c20 c21:UInt8):Bool:=!(c2 == 45) || !(c6 == 45) || !(c11 == 32) || !(c14 == 58) || !(c17 == 58) || !(c20 == 32) || (!(c21 == 43) && !(c21 == 45))
def bad2 (d y h m s zh zm:List UInt8) (c0:UInt8):Bool:=!(digB d) || !(digB y) || !(digB h) || !(digB m) || !(digB s) || !(digB zh) || !(digB zm) || (c0 == 48) || decide (14 < digN zh) || decide (59 < digN zm)
theorem u8_eq (c x:UInt8) (n:Int) (hn:(x.toNat:Int) = n) (h:c = x):((c.toNat:Int) != n) = false:=by subst h;simp [hn]
theorem u8_ne (c x:UInt8) (n:Int) (hn:(x.toNat:Int) = n) (h:¬ c = x):((c.toNat:Int) != n) = true:=by
 rw [bne_iff_ne]
 intro h2
 exact h (UInt8.toNat_inj.mp (by omega))
theorem rparse_len (l:List UInt8) (w:World) (h:l.length ≠ 26) :
  Calls Tryz.prog 75 #[.string (str l)] w fun e w'=>e = .returned (.tuple #[.int .i64 0,.int .i64 80])∧w = w':=by
 have hsz:=str_size l
 have e1:((l.length:Int) == 26) = false:=by simp;omega
 go_enter Tryz.func75,Tryz.ntmps75
 go_wp2
 exact bodyPost_ret (v:=.tuple #[.int .i64 0,.int .i64 80]) (by simp [results,Tryz.results75,go_sem]) rfl ⟨rfl,rfl⟩
set_option maxHeartbeats 4000000 in
theorem rparse_first (s:ByteArray) (c2 c6 c11 c14 c17 c20 c21:UInt8) (w:World) (hs:s.size = 26) (hb:bad1 c2 c6 c11 c14 c17 c20 c21 = true)
  (i2:∀ h,s[2]'h = c2) (i6:∀ h,s[6]'h = c6) (i11:∀ h,s[11]'h = c11) (i14:∀ h,s[14]'h = c14) (i17:∀ h,s[17]'h = c17) (i20:∀ h,s[20]'h = c20) (i21:∀ h,s[21]'h = c21) :
  Calls Tryz.prog 75 #[.string s] w fun e w'=>e = .returned (.tuple #[.int .i64 0,.int .i64 80])∧w = w':=by
 have hb':c2 ≠ 45∨c6 ≠ 45∨c11 ≠ 32∨c14 ≠ 58∨c17 ≠ 58∨c20 ≠ 32∨(c21 ≠ 43∧c21 ≠ 45):=by
  simpa [bad1,or_assoc] using hb
 clear hb
 by_cases d2:¬ c2 = 45
 · have e2:=u8_ne c2 45 45 rfl d2
   clear d2 i6 i11 i14 i17 i20 i21 hb'
   go_enter Tryz.func75,Tryz.ntmps75
   go_wp2
   exact bodyPost_ret (v:=.tuple #[.int .i64 0,.int .i64 80]) (by simp [results,Tryz.results75,go_sem]) rfl ⟨rfl,rfl⟩
 have d2:=Decidable.not_not.mp d2
 have e2:=u8_eq c2 45 45 rfl d2
 by_cases d6:¬ c6 = 45
 · have e6:=u8_ne c6 45 45 rfl d6
   clear d2 d6 i11 i14 i17 i20 i21 hb'
   go_enter Tryz.func75,Tryz.ntmps75
   go_wp2
   exact bodyPost_ret (v:=.tuple #[.int .i64 0,.int .i64 80]) (by simp [results,Tryz.results75,go_sem]) rfl ⟨rfl,rfl⟩
 have d6:=Decidable.not_not.mp d6
 have e6:=u8_eq c6 45 45 rfl d6
 by_cases d11:¬ c11 = 32
 · have e11:=u8_ne c11 32 32 rfl d11
   clear d2 d6 d11 i14 i17 i20 i21 hb'
   go_enter Tryz.func75,Tryz.ntmps75
   go_wp2
   exact bodyPost_ret (v:=.tuple #[.int .i64 0,.int .i64 80]) (by simp [results,Tryz.results75,go_sem]) rfl ⟨rfl,rfl⟩
 have d11:=Decidable.not_not.mp d11
 have e11:=u8_eq c11 32 32 rfl d11
 by_cases d14:¬ c14 = 58
 · have e14:=u8_ne c14 58 58 rfl d14
   clear d2 d6 d11 d14 i17 i20 i21 hb'
   go_enter Tryz.func75,Tryz.ntmps75
   go_wp2
   exact bodyPost_ret (v:=.tuple #[.int .i64 0,.int .i64 80]) (by simp [results,Tryz.results75,go_sem]) rfl ⟨rfl,rfl⟩
 have d14:=Decidable.not_not.mp d14
 have e14:=u8_eq c14 58 58 rfl d14
 by_cases d17:¬ c17 = 58
 · have e17:=u8_ne c17 58 58 rfl d17
   clear d2 d6 d11 d14 d17 i20 i21 hb'
   go_enter Tryz.func75,Tryz.ntmps75
   go_wp2
   exact bodyPost_ret (v:=.tuple #[.int .i64 0,.int .i64 80]) (by simp [results,Tryz.results75,go_sem]) rfl ⟨rfl,rfl⟩
 have d17:=Decidable.not_not.mp d17
 have e17:=u8_eq c17 58 58 rfl d17
 by_cases d20:¬ c20 = 32
 · have e20:=u8_ne c20 32 32 rfl d20
   clear d2 d6 d11 d14 d17 d20 i21 hb'
   go_enter Tryz.func75,Tryz.ntmps75
   go_wp2
   exact bodyPost_ret (v:=.tuple #[.int .i64 0,.int .i64 80]) (by simp [results,Tryz.results75,go_sem]) rfl ⟨rfl,rfl⟩
 have d20:=Decidable.not_not.mp d20
 have e20:=u8_eq c20 32 32 rfl d20
 obtain ⟨d21,d22⟩:¬ c21 = 43∧¬ c21 = 45:=by
  rcases hb' with h | h | h | h | h | h | h
  · exact absurd d2 h
  · exact absurd d6 h
  · exact absurd d11 h
  · exact absurd d14 h
  · exact absurd d17 h
  · exact absurd d20 h
  · exact h
 have e21:=u8_ne c21 43 43 rfl d21
 have e22:=u8_ne c21 45 45 rfl d22
 clear d2 d6 d11 d14 d17 d20 d21 d22  hb'
 go_enter Tryz.func75,Tryz.ntmps75
 go_wp2
 exact bodyPost_ret (v:=.tuple #[.int .i64 0,.int .i64 80]) (by simp [results,Tryz.results75,go_sem]) rfl ⟨rfl,rfl⟩
end Go.Proofs.YtfdmdmahddjjmaaGreatDoor.St
namespace Go.Proofs.YtfdmdmahddjjmaaGreatDoor.St
open Go.RowKit Own
def dropS:Nat→Code→Code
 | 0,c=>c
 | n + 1,.seq _ b=>dropS n b
 | _,c=>c
noncomputable def rbody:Code:=Tryz.f75.body.getD .skip
attribute [local go_sem] str_toList str_size
set_option maxHeartbeats 4000000 in
theorem rparse_tail13 (s:ByteArray) (w w1:World) (c0 c21:UInt8) (q3:List UInt8) (xdq xq7 xq12 xq15 xq18 xq22 xq24:Int) (ydq yq7 yq12 yq15 yq18 yq22 yq24:Bool) (out:Int × Int) (u1 u2 u3 u5 u20 u21 u22 u23 u24 u25 u26 u27 u28 u29 u30 u31 u32 u33 u34 u35 u36 u37 u38 u39 u40 u41 u42 u43 u44 u45 u46 u47 u48 u49 u50 u51 u52 u53 u54 u55 u56 u57 u58 u59 u60 u61 u62 u63 u64 u65 u66 u67 u68 u69 u70 u71 u72 u73 u74 u75 u76 u77 u78 u79 u80 u81 u82 u83 u84 u85 u86 u87 u88 u89 u90 u91 u92 u93 u94 u95 u96 u97 u98 u99 u100 u101 u102 u103 u104 u105 u106 u107 u108 u109 u110 u111 u112 u113 u114 u115 u116 u117 u118 u119 u120 u121 u122 u123 u124 u125 u126 u127 u128 u129 u130 u131 u132 u133 u134 u135 u136 u137 u138 u139 u140 u141 u142 u143 u144 u145 u146 u147 u148 u149 u150 u151 u152 u153 u154 u155 u156 u157 u158 u159 u160 u161 u162 u163 u164 u165 u166 u167 u168 u169 u170 u171 u172 u173 u174 u175 u176 u177 u178 u179 u180 u181 u182 u183 u184 u185 u186 u187 u188 u189 u190 u191 u192 u193 u194 u195 u196 u197 u198 u199 u200 u201 u202 u203 u204 u205 u206 u207:Value)
  (hs:s.size = 26) (s3:s.extract 3 6 = str q3) (i21:∀ h,s[21]'h = c21) (HB':Hid (w1.heap[w.heap.size]? = some (.cells #[.int .i64 0,.int .i64 0,.int .i64 0,.int .i64 0,.int .i64 0,.int .i64 0,.int .i64 0] 107 (0,0)))) (HBE':Hid (Below w.heap.size w w1)) (r22:0 ≤ xq22∧xq22 ≤ 14) (r24:0 ≤ xq24∧xq24 ≤ 59) (ho:out = momP ((secPair xq7 (lastM q3 12) xdq xq12 xq15 xq18).1 + (if c21 = 43 then -(xq22 * 3600 + xq24 * 60) else xq22 * 3600 + xq24 * 60)) (secPair xq7 (lastM q3 12) xdq xq12 xq15 xq18).2) :
  Code.wp Tryz.prog (dropS 13 rbody) (bodyPost Tryz.prog Tryz.f75 (fun e w'=>e = .returned (parseV out)∧Below w.heap.size w w')) ⟨List.toArray ((.string s) :: u1 :: u2 :: u3 :: (.pointer (some ⟨w.heap.size,0,none⟩)) :: u5 :: (.int .i64 xdq) :: (.bool ydq) :: (.int .i64 xq7) :: (.bool yq7) :: (.int .i64 xq12) :: (.bool yq12) :: (.int .i64 xq15) :: (.bool yq15) :: (.int .i64 xq18) :: (.bool yq18) :: (.int .i64 xq22) :: (.bool yq22) :: (.int .i64 xq24) :: (.bool yq24) :: u20 :: u21 :: u22 :: u23 :: u24 :: u25 :: u26 :: u27 :: u28 :: u29 :: u30 :: u31 :: u32 :: u33 :: u34 :: u35 :: u36 :: u37 :: u38 :: u39 :: u40 :: u41 :: u42 :: u43 :: u44 :: u45 :: u46 :: u47 :: u48 :: u49 :: u50 :: u51 :: u52 :: u53 :: u54 :: u55 :: u56 :: u57 :: u58 :: u59 :: u60 :: u61 :: u62 :: u63 :: u64 :: u65 :: u66 :: u67 :: u68 :: u69 :: u70 :: u71 :: u72 :: u73 :: u74 :: u75 :: u76 :: u77 :: u78 :: u79 :: u80 :: u81 :: u82 :: u83 :: u84 :: u85 :: u86 :: u87 :: u88 :: u89 :: u90 :: u91 :: u92 :: u93 :: u94 :: u95 :: u96 :: u97 :: u98 :: u99 :: u100 :: u101 :: u102 :: u103 :: u104 :: u105 :: u106 :: u107 :: u108 :: u109 :: u110 :: u111 :: u112 :: u113 :: u114 :: u115 :: u116 :: u117 :: u118 :: u119 :: u120 :: u121 :: u122 :: u123 :: u124 :: u125 :: u126 :: u127 :: u128 :: u129 :: u130 :: u131 :: u132 :: u133 :: u134 :: u135 :: u136 :: u137 :: u138 :: u139 :: u140 :: u141 :: u142 :: u143 :: u144 :: u145 :: u146 :: u147 :: u148 :: u149 :: u150 :: u151 :: u152 :: u153 :: u154 :: u155 :: u156 :: u157 :: u158 :: u159 :: u160 :: u161 :: u162 :: u163 :: u164 :: u165 :: u166 :: u167 :: u168 :: u169 :: u170 :: u171 :: u172 :: u173 :: u174 :: u175 :: u176 :: u177 :: u178 :: u179 :: u180 :: u181 :: u182 :: u183 :: u184 :: u185 :: u186 :: u187 :: u188 :: u189 :: u190 :: u191 :: u192 :: u193 :: u194 :: u195 :: u196 :: u197 :: u198 :: u199 :: u200 :: u201 :: u202 :: u203 :: u204 :: u205 :: u206 :: u207 :: []),[]⟩ w1:=by
 conv=>arg 2;whnf
 go_wp2_with fail
 go_loopw [20] (fun v20 wr=>∃ i:Nat,i ≤ 12∧v20 = .int .i64 ((i:Int) + 1)∧wr.heap[w.heap.size]? = some (.cells #[.int .i64 0,.int .i64 (lastM q3 i),.int .i64 0,.int .i64 0,.int .i64 0,.int .i64 0,.int .i64 0] 107 (0,0))∧Below w.heap.size w wr) (fun v20 _=>14 - (intOf v20).toNat)
 case atStart=>exact ⟨0,by omega,rfl,HB'.out,HBE'.out⟩
 case round =>
  obtain ⟨i,hi,rfl,hB,hbel⟩:=hrel
  have HB:=hid hB
  have HBE:=hid hbel
  have f1:=free_at hB 1
  have c1:=cells_at hB 1
  clear hB hbel
  by_cases hil:i < 12
  · have e1:decide ((i:Int) + 1 ≤ 12) = true:=decide_eq_true (by omega)
    obtain ⟨mo,hmo⟩:∃ mo,mo = (i:Int) + 1:=⟨_,rfl⟩
    have hmr:1 ≤ mo∧mo ≤ 12:=by omega
    have hmon:∀ w',Calls Tryz.prog 109 #[.int .i64 ((i:Int) + 1)] w' fun e w2=>e = .returned (.string (monB mo))∧w' = w2:=by
     intro w';rw [← hmo];exact month_any mo w' hmr
    have hlast:lastM q3 (i + 1) = if monB mo = str q3 then mo else lastM q3 i:=by
     rw [hmo];rfl
    have HL:=hid hlast
    have HMO:=hid hmo
    clear hlast hmo
    by_cases hq:monB mo = str q3
    · have e2:((monB mo).toList == q3) = true:=by rw [hq,str_toList];simp
      have hlast:lastM q3 (i + 1) = mo:=by rw [HL.out,if_pos hq]
      have HLA:=hid hlast
      clear hq hlast HL
      generalize monB mo = mb at *
      go_wp2_with fail
      go_quiet ((go_at_call 109;exact Calls.quiet_of_same ((hmon _).mono fun _ _ ⟨he,hw⟩=>⟨he,hw.symm⟩)))
      go_wp2
      refine ⟨⟨i + 1,by omega,by simp,?_,(below_drewN HBE.out nq).setCell (by simp) _⟩,by simp [intOf];omega⟩
      have hB2:=block_set (w:=wr.drewN nq) HB.out 1 (.int .i64 ((i:Int) + 1))
      rw [HLA.out,HMO.out]
      simpa using hB2
    · have e2:((monB mo).toList == q3) = false:=by
        rw [beq_eq_false_iff_ne]
        intro h2
        apply hq
        rw [← h2,ByteArray.toList_eq]
        rfl
      have hlast:lastM q3 (i + 1) = lastM q3 i:=by rw [HL.out,if_neg hq]
      have HLA:=hid hlast
      clear hq hlast HL
      generalize monB mo = mb at *
      go_wp2_with fail
      go_quiet ((go_at_call 109;exact Calls.quiet_of_same ((hmon _).mono fun _ _ ⟨he,hw⟩=>⟨he,hw.symm⟩)))
      go_wp2
      refine ⟨⟨i + 1,by omega,by simp,?_,below_drewN HBE.out nq⟩,by simp [intOf];omega⟩
      rw [HLA.out]
      exact HB.out
  · have e1:decide ((i:Int) + 1 ≤ 12) = false:=decide_eq_false (by omega)
    have hi2:i = 12:=by omega
    subst hi2
    have HB12:wr.heap[w.heap.size]? = some (.cells #[.int .i64 0,.int .i64 (lastM q3 12),.int .i64 0,.int .i64 0,.int .i64 0,.int .i64 0,.int .i64 0] 107 (0,0)):=HB.out
    clear hi hil
    generalize lastM q3 12 = mo at *
    have f0:=free_at HB12 0
    have f2:=free_at HB12 2
    have f3:=free_at HB12 3
    have f4:=free_at HB12 4
    have f5:=free_at HB12 5
    have c0':=cells_at HB12 0
    have c2:=cells_at HB12 2
    have c3:=cells_at HB12 3
    have c4:=cells_at HB12 4
    have c5:=cells_at HB12 5
    have c6:=cells_at HB12 6
    clear HB12
    rcases hsp:secPair xq7 mo xdq xq12 xq15 xq18 with ⟨sn,sok⟩
    have bs:-40000000000 ≤ sn∧sn ≤ 40000000000:=by
     have:=secPair_rng xq7 mo xdq xq12 xq15 xq18
     rw [hsp] at this
     exact this
    have hat:=fun w'=>at_any xq7 mo xdq xq12 xq15 xq18 0 w'
    rw [hsp] at hat ho
    unfold time7 at hat
    have HO:=hid ho
    clear hsp ho
    go_upto_region 27 with ((go_at_call 110;refine (hat _).mono ?_;rintro e w5 ⟨rfl,hb5⟩))
    have hb6:=below_then (((((HBE.out.setCell (p:=⟨w.heap.size,0,none⟩) (by simp) _).setCell (p:=⟨w.heap.size,2,none⟩) (by simp) _).setCell (p:=⟨w.heap.size,3,none⟩) (by simp) _).setCell (p:=⟨w.heap.size,4,none⟩) (by simp) _).setCell (p:=⟨w.heap.size,5,none⟩) (by simp) _) hb5
    clear f0 f2 f3 f4 f5 c0' c1 c2 c3 c4 c5 c6 f1 hat HB HBE HB' HBE' hb5 s3
    obtain ⟨n,hn⟩:∃ n,n = sn + (if c21 = 43 then -(xq22 * 3600 + xq24 * 60) else xq22 * 3600 + xq24 * 60):=⟨_,rfl⟩
    have hout:out = momP n sok:=by rw [hn];exact HO.out
    have HOUT:=hid hout
    have HN:=hid hn
    clear HO hn hout
    have hi21:=i21 (by omega)
    clear i21
    go_upto_if 182 with fail
    clear hi21 hs
    go_cut [21] (fun v21 wx=>v21 = .int .i64 n∧w5 = wx)
    case first =>
     by_cases c:c21 = 43
     · have hc:((c21.toNat:Int) == 43) = true:=by rw [c];rfl
       have hn:=HN.out
       rw [if_pos c] at hn
       have HN2:=hid hn
       clear c hn
       go_wp2
       go_meet
       case rel=>exact ⟨by rw [HN2.out];go_num,rfl⟩
     · have hc:((c21.toNat:Int) == 43) = false:=by simpa using u8_ne c21 43 43 rfl c
       have hn:=HN.out
       rw [if_neg c] at hn
       have HN2:=hid hn
       clear c hn
       go_wp2
       go_meet
       case rel=>exact ⟨by rw [HN2.out];go_num,rfl⟩
    case rest =>
    obtain ⟨rfl,rfl⟩:=hcut
    clear HN bs r22 r24
    cases sok with
    | false =>
     have hm:out = (0,80):=by rw [HOUT.out];simp [momP]
     go_wp2
     exact bodyPost_ret (v:=.tuple #[.int .i64 0,.int .i64 80]) (by simp [results,Tryz.results75,go_sem]) rfl ⟨by first | rfl | (rw [hm];rfl),hb6⟩
    | true =>
     by_cases h0:n < 0
     · have e0:decide (n < 0) = true:=decide_eq_true h0
       have hm:out = (0,80):=by rw [HOUT.out];unfold momP;rw [if_neg (by omega)]
       go_wp2
       exact bodyPost_ret (v:=.tuple #[.int .i64 0,.int .i64 80]) (by simp [results,Tryz.results75,go_sem]) rfl ⟨by first | rfl | (rw [hm];rfl),hb6⟩
     · have e0:decide (n < 0) = false:=decide_eq_false h0
       by_cases h1:4294967296 ≤ n
       · have e1:decide (4294967296 ≤ n) = true:=decide_eq_true h1
         have hm:out = (0,80):=by rw [HOUT.out];unfold momP;rw [if_neg (by omega)]
         go_wp2
         exact bodyPost_ret (v:=.tuple #[.int .i64 0,.int .i64 80]) (by simp [results,Tryz.results75,go_sem]) rfl ⟨by first | rfl | (rw [hm];rfl),hb6⟩
       · have e1:decide (4294967296 ≤ n) = false:=decide_eq_false h1
         have hm:out = (n,0):=by rw [HOUT.out];unfold momP;rw [if_pos (by simp;omega)]
         go_wp2
         exact bodyPost_ret (v:=.tuple #[.int .i64 n,.int .i64 0]) (by simp [results,Tryz.results75,go_sem]) rfl ⟨by first | rfl | (rw [hm];rfl),hb6⟩
end Go.Proofs.YtfdmdmahddjjmaaGreatDoor.St
namespace Go.Proofs.YtfdmdmahddjjmaaGreatDoor.St
open Go.RowKit Own
set_option maxHeartbeats 4000000 in
theorem rparse_tail12 (s:ByteArray) (w w1:World) (c0 c21:UInt8) (q3:List UInt8) (xdq xq7 xq12 xq15 xq18 xq22 xq24:Int) (ydq yq7 yq12 yq15 yq18 yq22 yq24:Bool) (out:Int × Int) (u1 u2 u3 u5 u20 u21 u22 u23 u24 u25 u26 u27 u28 u29 u30 u31 u32 u33 u34 u35 u36 u37 u38 u39 u40 u41 u42 u43 u44 u45 u46 u47 u48 u49 u50 u51 u52 u53 u54 u55 u56 u57 u58 u59 u60 u61 u62 u63 u64 u65 u66 u67 u68 u69 u70 u71 u72 u73 u74 u75 u76 u77 u78 u79 u80 u81 u82 u83 u84 u85 u86 u87 u88 u89 u90 u91 u92 u93 u94 u95 u96 u97 u98 u99 u100 u101 u102 u103 u104 u105 u106 u107 u108 u109 u110 u111 u112 u113 u114 u115 u116 u117 u118 u119 u120 u121 u122 u123 u124 u125 u126 u127 u128 u129 u130 u131 u132 u133 u134 u135 u136 u137 u138 u139 u140 u141 u142 u143 u144 u145 u146 u147 u148 u149 u150 u151 u152 u153 u154 u155 u156 u157 u158 u159 u160 u161 u162 u163 u164 u165 u166 u167 u168 u169 u170 u171 u172 u173 u174 u175 u176 u177 u178 u179 u180 u181 u182 u183 u184 u185 u186 u187 u188 u189 u190 u191 u192 u193 u194 u195 u196 u197 u198 u199 u200 u201 u202 u203 u204 u205 u206 u207:Value)
  (hs:s.size = 26) (s3:s.extract 3 6 = str q3) (i21:∀ h,s[21]'h = c21) (HB':Hid (w1.heap[w.heap.size]? = some (.cells #[.int .i64 0,.int .i64 0,.int .i64 0,.int .i64 0,.int .i64 0,.int .i64 0,.int .i64 0] 107 (0,0)))) (HBE':Hid (Below w.heap.size w w1)) (i0:∀ h,s[0]'h = c0) (r22:0 ≤ xq22∧xq22 ≤ 100000000) (r24:0 ≤ xq24∧xq24 ≤ 100000000) (ho:out = if (!ydq || !yq7 || !yq12 || !yq15 || !yq18 || !yq22 || !yq24 || (c0 == 48) || decide (14 < xq22) || decide (59 < xq24)) = true then ((0:Int),(80:Int)) else momP ((secPair xq7 (lastM q3 12) xdq xq12 xq15 xq18).1 + (if c21 = 43 then -(xq22 * 3600 + xq24 * 60) else xq22 * 3600 + xq24 * 60)) (secPair xq7 (lastM q3 12) xdq xq12 xq15 xq18).2) :
  Code.wp Tryz.prog (dropS 12 rbody) (bodyPost Tryz.prog Tryz.f75 (fun e w'=>e = .returned (parseV out)∧Below w.heap.size w w')) ⟨List.toArray ((.string s) :: u1 :: u2 :: u3 :: (.pointer (some ⟨w.heap.size,0,none⟩)) :: u5 :: (.int .i64 xdq) :: (.bool ydq) :: (.int .i64 xq7) :: (.bool yq7) :: (.int .i64 xq12) :: (.bool yq12) :: (.int .i64 xq15) :: (.bool yq15) :: (.int .i64 xq18) :: (.bool yq18) :: (.int .i64 xq22) :: (.bool yq22) :: (.int .i64 xq24) :: (.bool yq24) :: u20 :: u21 :: u22 :: u23 :: u24 :: u25 :: u26 :: u27 :: u28 :: u29 :: u30 :: u31 :: u32 :: u33 :: u34 :: u35 :: u36 :: u37 :: u38 :: u39 :: u40 :: u41 :: u42 :: u43 :: u44 :: u45 :: u46 :: u47 :: u48 :: u49 :: u50 :: u51 :: u52 :: u53 :: u54 :: u55 :: u56 :: u57 :: u58 :: u59 :: u60 :: u61 :: u62 :: u63 :: u64 :: u65 :: u66 :: u67 :: u68 :: u69 :: u70 :: u71 :: u72 :: u73 :: u74 :: u75 :: u76 :: u77 :: u78 :: u79 :: u80 :: u81 :: u82 :: u83 :: u84 :: u85 :: u86 :: u87 :: u88 :: u89 :: u90 :: u91 :: u92 :: u93 :: u94 :: u95 :: u96 :: u97 :: u98 :: u99 :: u100 :: u101 :: u102 :: u103 :: u104 :: u105 :: u106 :: u107 :: u108 :: u109 :: u110 :: u111 :: u112 :: u113 :: u114 :: u115 :: u116 :: u117 :: u118 :: u119 :: u120 :: u121 :: u122 :: u123 :: u124 :: u125 :: u126 :: u127 :: u128 :: u129 :: u130 :: u131 :: u132 :: u133 :: u134 :: u135 :: u136 :: u137 :: u138 :: u139 :: u140 :: u141 :: u142 :: u143 :: u144 :: u145 :: u146 :: u147 :: u148 :: u149 :: u150 :: u151 :: u152 :: u153 :: u154 :: u155 :: u156 :: u157 :: u158 :: u159 :: u160 :: u161 :: u162 :: u163 :: u164 :: u165 :: u166 :: u167 :: u168 :: u169 :: u170 :: u171 :: u172 :: u173 :: u174 :: u175 :: u176 :: u177 :: u178 :: u179 :: u180 :: u181 :: u182 :: u183 :: u184 :: u185 :: u186 :: u187 :: u188 :: u189 :: u190 :: u191 :: u192 :: u193 :: u194 :: u195 :: u196 :: u197 :: u198 :: u199 :: u200 :: u201 :: u202 :: u203 :: u204 :: u205 :: u206 :: u207 :: []),[]⟩ w1:=by
 have HO:=hid ho
 clear ho
 cases ydq with
 | false =>
  have hm:out = (0,80):=by rw [HO.out,if_pos (by simp)]
  clear HO s3 i21 i0
  conv=>arg 2;whnf
  go_wp2
  exact bodyPost_ret (v:=.tuple #[.int .i64 0,.int .i64 80]) (by simp [results,Tryz.results75,go_sem]) rfl ⟨by first | rfl | (rw [hm];rfl),HBE'.out⟩
 | true =>
 cases yq7 with
 | false =>
  have hm:out = (0,80):=by rw [HO.out,if_pos (by simp)]
  clear HO s3 i21 i0
  conv=>arg 2;whnf
  go_wp2
  exact bodyPost_ret (v:=.tuple #[.int .i64 0,.int .i64 80]) (by simp [results,Tryz.results75,go_sem]) rfl ⟨by first | rfl | (rw [hm];rfl),HBE'.out⟩
 | true =>
 cases yq12 with
 | false =>
  have hm:out = (0,80):=by rw [HO.out,if_pos (by simp)]
  clear HO s3 i21 i0
  conv=>arg 2;whnf
  go_wp2
  exact bodyPost_ret (v:=.tuple #[.int .i64 0,.int .i64 80]) (by simp [results,Tryz.results75,go_sem]) rfl ⟨by first | rfl | (rw [hm];rfl),HBE'.out⟩
 | true =>
 cases yq15 with
 | false =>
  have hm:out = (0,80):=by rw [HO.out,if_pos (by simp)]
  clear HO s3 i21 i0
  conv=>arg 2;whnf
  go_wp2
  exact bodyPost_ret (v:=.tuple #[.int .i64 0,.int .i64 80]) (by simp [results,Tryz.results75,go_sem]) rfl ⟨by first | rfl | (rw [hm];rfl),HBE'.out⟩
 | true =>
 cases yq18 with
 | false =>
  have hm:out = (0,80):=by rw [HO.out,if_pos (by simp)]
  clear HO s3 i21 i0
  conv=>arg 2;whnf
  go_wp2
  exact bodyPost_ret (v:=.tuple #[.int .i64 0,.int .i64 80]) (by simp [results,Tryz.results75,go_sem]) rfl ⟨by first | rfl | (rw [hm];rfl),HBE'.out⟩
 | true =>
 cases yq22 with
 | false =>
  have hm:out = (0,80):=by rw [HO.out,if_pos (by simp)]
  clear HO s3 i21 i0
  conv=>arg 2;whnf
  go_wp2
  exact bodyPost_ret (v:=.tuple #[.int .i64 0,.int .i64 80]) (by simp [results,Tryz.results75,go_sem]) rfl ⟨by first | rfl | (rw [hm];rfl),HBE'.out⟩
 | true =>
 cases yq24 with
 | false =>
  have hm:out = (0,80):=by rw [HO.out,if_pos (by simp)]
  clear HO s3 i21 i0
  conv=>arg 2;whnf
  go_wp2
  exact bodyPost_ret (v:=.tuple #[.int .i64 0,.int .i64 80]) (by simp [results,Tryz.results75,go_sem]) rfl ⟨by first | rfl | (rw [hm];rfl),HBE'.out⟩
 | true =>
 by_cases k0:c0 = 48
 · have hc:((c0.toNat:Int) == 48) = true:=by rw [k0];rfl
   have hm:out = (0,80):=by rw [HO.out,if_pos (by simp [k0])]
   clear HO s3 i21 k0
   conv=>arg 2;whnf
   go_wp2
   exact bodyPost_ret (v:=.tuple #[.int .i64 0,.int .i64 80]) (by simp [results,Tryz.results75,go_sem]) rfl ⟨by first | rfl | (rw [hm];rfl),HBE'.out⟩
 have hc:((c0.toNat:Int) == 48) = false:=by simpa using u8_ne c0 48 48 rfl k0
 by_cases k1:14 < xq22
 · have hk1:decide (14 < xq22) = true:=decide_eq_true k1
   have hm:out = (0,80):=by rw [HO.out,if_pos (by simp [k1])]
   clear HO s3 i21 k0 k1
   conv=>arg 2;whnf
   go_wp2
   exact bodyPost_ret (v:=.tuple #[.int .i64 0,.int .i64 80]) (by simp [results,Tryz.results75,go_sem]) rfl ⟨by first | rfl | (rw [hm];rfl),HBE'.out⟩
 have hk1:decide (14 < xq22) = false:=decide_eq_false k1
 by_cases k2:59 < xq24
 · have hk2:decide (59 < xq24) = true:=decide_eq_true k2
   have hm:out = (0,80):=by rw [HO.out,if_pos (by simp [k2])]
   clear HO s3 i21 k0 k1 k2
   conv=>arg 2;whnf
   go_wp2
   exact bodyPost_ret (v:=.tuple #[.int .i64 0,.int .i64 80]) (by simp [results,Tryz.results75,go_sem]) rfl ⟨by first | rfl | (rw [hm];rfl),HBE'.out⟩
 have hk2:decide (59 < xq24) = false:=decide_eq_false k2
 have ho2:out = momP ((secPair xq7 (lastM q3 12) xdq xq12 xq15 xq18).1 + (if c21 = 43 then -(xq22 * 3600 + xq24 * 60) else xq22 * 3600 + xq24 * 60)) (secPair xq7 (lastM q3 12) xdq xq12 xq15 xq18).2:=by
  have:=HO.out
  rw [if_neg (by simp [k0];omega)] at this
  exact this
 have HO2:=hid ho2
 have R22:0 ≤ xq22∧xq22 ≤ 14:=by omega
 have R24:0 ≤ xq24∧xq24 ≤ 59:=by omega
 have HR:=hid (And.intro R22 R24)
 have HS3:=hid s3
 have HI21:=hid i21
 clear ho2 HO k0 k1 k2 R22 R24 r22 r24 s3 i21
 conv=>arg 2;whnf
 go_upto_if 153 with fail
 go_cut [153] (fun v153 wx=>v153 = .bool false∧w1 = wx)
 case first =>
  go_wp2
  go_meet
  case rel=>exact ⟨rfl,rfl⟩
 case rest =>
 obtain ⟨rfl,rfl⟩:=hcut
 refine ‹∀ (a:Act) (w:World),Code.wp Tryz.prog _ _ a w→_› _ _ ?_
 exact rparse_tail13 s w w1 c0 c21 q3 _ _ _ _ _ _ _ _ _ _ _ _ _ _ out _ _ _ _ _ _ _ _ _ _ _ _ _ _ _ _ _ _ _ _ _ _ _ _ _ _ _ _ _ _ _ _ _ _ _ _ _ _ _ _ _ _ _ _ _ _ _ _ _ _ _ _ _ _ _ _ _ _ _ _ _ _ _ _ _ _ _ _ _ _ _ _ _ _ _ _ _ _ _ _ _ _ _ _ _ _ _ _ _ _ _ _ _ _ _ _ _ _ _ _ _ _ _ _ _ _ _ _ _ _ _ _ _ _ _ _ _ _ _ _ _ _ _ _ _ _ _ _ _ _ _ _ _ _ _ _ _ _ _ _ _ _ _ _ _ _ _ _ _ _ _ _ _ _ _ _ _ _ _ _ _ _ _ _ _ _ _ _ _ _ _ _ _ _ _ _ _ _ _ _ _ _ _ _ _ _ _ _ _ _ _ _ hs HS3.out HI21.out HB' HBE' HR.out.1 HR.out.2 HO2.out
end Go.Proofs.YtfdmdmahddjjmaaGreatDoor.St
namespace Go.Proofs.YtfdmdmahddjjmaaGreatDoor.St
open Go.RowKit Own
attribute [local go_sem] str_toList str_size
theorem digN_rng (l:List UInt8) (h:l.length ≤ 8):0 ≤ digN l∧digN l ≤ 100000000:=by
 unfold digN
 split
 · rename_i hd
   exact numI_rng l h (of_decide_eq_true hd)
 · exact ⟨by decide,by decide⟩
set_option maxHeartbeats 4000000 in
theorem rparse_second (s:ByteArray) (c0 c2 c6 c11 c14 c17 c20 c21:UInt8) (dq q3 q7 q12 q15 q18 q22 q24:List UInt8) (w:World) (hs:s.size = 26) (hb:bad1 c2 c6 c11 c14 c17 c20 c21 = false)
  (i0:∀ h,s[0]'h = c0) (i2:∀ h,s[2]'h = c2) (i6:∀ h,s[6]'h = c6) (i11:∀ h,s[11]'h = c11) (i14:∀ h,s[14]'h = c14) (i17:∀ h,s[17]'h = c17) (i20:∀ h,s[20]'h = c20) (i21:∀ h,s[21]'h = c21)
  (s1:c0 = 32→s.extract 1 2 = str dq) (s0:c0 ≠ 32→s.extract 0 2 = str dq) (s3:s.extract 3 6 = str q3) (s7:s.extract 7 11 = str q7) (s12:s.extract 12 14 = str q12) (s15:s.extract 15 17 = str q15) (s18:s.extract 18 20 = str q18) (s22:s.extract 22 24 = str q22) (s24:s.extract 24 26 = str q24)
  (nd:dq.length ≤ 8) (n7:q7.length ≤ 8) (n12:q12.length ≤ 8) (n15:q15.length ≤ 8) (n18:q18.length ≤ 8) (n22:q22.length ≤ 8) (n24:q24.length ≤ 8) (out:Int × Int)
  (ho:out = if bad2 dq q7 q12 q15 q18 q22 q24 c0 then ((0:Int),(80:Int)) else momP ((secPair (digN q7) (lastM q3 12) (digN dq) (digN q12) (digN q15) (digN q18)).1 + (if c21 = 43 then -(digN q22 * 3600 + digN q24 * 60) else digN q22 * 3600 + digN q24 * 60)) (secPair (digN q7) (lastM q3 12) (digN dq) (digN q12) (digN q15) (digN q18)).2) :
  Calls Tryz.prog 75 #[.string s] w fun e w'=>e = .returned (parseV out)∧Below w.heap.size w w':=by
 have hb':c2 = 45∧c6 = 45∧c11 = 32∧c14 = 58∧c17 = 58∧c20 = 32∧(c21 = 43∨c21 = 45):=by
  simp [bad1] at hb
  simp [hb]
  by_cases h:c21 = 43
  · exact .inl h
  · exact .inr (hb.2 h)
 obtain ⟨d2,d6,d11,d14,d17,d20,d21⟩:=hb'
 have e2:=u8_eq c2 45 45 rfl d2
 have e6:=u8_eq c6 45 45 rfl d6
 have e11:=u8_eq c11 32 32 rfl d11
 have e14:=u8_eq c14 58 58 rfl d14
 have e17:=u8_eq c17 58 58 rfl d17
 have e20:=u8_eq c20 32 32 rfl d20
 have HO:=hid ho
 have S1:=hid s1
 have S0:=hid s0
 have I0:=hid i0
 have HB:=heap_alloc_new w (.cells #[.int .i64 0,.int .i64 0,.int .i64 0,.int .i64 0,.int .i64 0,.int .i64 0,.int .i64 0] 107 (0,0))
 have HBE:Below w.heap.size w (w.alloc (.cells #[.int .i64 0,.int .i64 0,.int .i64 0,.int .i64 0,.int .i64 0,.int .i64 0,.int .i64 0] 107 (0,0))):=(Below.refl _ _).alloc (Nat.le_refl _) _
 have HB':=hid HB
 have HBE':=hid HBE
 clear d2 d6 d11 d14 d17 d20 ho hb s1 s0 HB HBE
 go_enter Tryz.func75,Tryz.ntmps75
 have D21:=hid d21
 clear d21
 go_upto_region 1 with fail
 go_cut [65] (fun v65 wx=>v65 = .bool false∧w = wx)
 case first =>
  rcases D21.out with d21 | d21
  · have e21:=u8_eq c21 43 43 rfl d21
    clear d21
    go_wp2
    go_meet
    case rel=>exact ⟨rfl,rfl⟩
  · have e21:((c21.toNat:Int) != 43) = true:=by rw [d21];rfl
    have e22:=u8_eq c21 45 45 rfl d21
    clear d21
    go_wp2
    go_meet
    case rel=>exact ⟨rfl,rfl⟩
 case rest =>
 obtain ⟨rfl,rfl⟩:=hcut
 have I21:=hid i21
 clear e2 e6 e11 e14 e17 e20 i2 i6 i11 i14 i17 i20 i21
 go_upto_if 71 with fail
 go_cut [5] (fun v5 wx=>v5 = .string (str dq)∧w.alloc (.cells #[.int .i64 0,.int .i64 0,.int .i64 0,.int .i64 0,.int .i64 0,.int .i64 0,.int .i64 0] 107 (0,0)) = wx)
 case first =>
  by_cases c:c0 = 32
  · have hc:((c0.toNat:Int) == 32) = true:=by rw [c];rfl
    have s1:=S1.out c
    clear c i0
    go_wp2
    go_meet
    case rel=>exact ⟨rfl,rfl⟩
  · have hc:((c0.toNat:Int) == 32) = false:=by
      have:=u8_ne c0 32 32 rfl c
      simpa using this
    have s0:=S0.out c
    clear c i0
    go_wp2
    go_meet
    case rel=>exact ⟨by first | rfl | rw [s0],rfl⟩
 case rest =>
 obtain ⟨rfl,hwx⟩:=hcut
 rw [hwx] at HB' HBE'
 obtain ⟨w1,hw1⟩:∃ w1:World,w1 = wc:=⟨_,rfl⟩
 rw [← hw1] at HB' HBE' hwx
 rw [← hw1]
 clear hw1 hwx
 go_upto_region 13 with ((go_at_call 108;refine (rdigits_any _ _ (by assumption)).mono ?_;rintro e w2 ⟨rfl,rfl⟩))
 go_cut [6,7,8,9,10,11,12,13,14,15,16,17,18,19] (fun v6 v7 v8 v9 v10 v11 v12 v13 v14 v15 v16 v17 v18 v19 wx=>v6 = .int .i64 (digN dq)∧v7 = .bool (digB dq)∧v8 = .int .i64 (digN q7)∧v9 = .bool (digB q7)∧v10 = .int .i64 (digN q12)∧v11 = .bool (digB q12)∧v12 = .int .i64 (digN q15)∧v13 = .bool (digB q15)∧v14 = .int .i64 (digN q18)∧v15 = .bool (digB q18)∧v16 = .int .i64 (digN q22)∧v17 = .bool (digB q22)∧v18 = .int .i64 (digN q24)∧v19 = .bool (digB q24)∧w1 = wx)
 case first =>
  go_wp2_with ((go_at_call 108;refine (rdigits_any _ _ (by assumption)).mono ?_;rintro e w2 ⟨rfl,rfl⟩))
  go_meet
  case rel=>exact ⟨rfl,rfl,rfl,rfl,rfl,rfl,rfl,rfl,rfl,rfl,rfl,rfl,rfl,rfl,rfl⟩
 case rest =>
 obtain ⟨rfl,rfl,rfl,rfl,rfl,rfl,rfl,rfl,rfl,rfl,rfl,rfl,rfl,rfl,rfl⟩:=hcut
 have r22:=digN_rng q22 n22
 have r24:=digN_rng q24 n24
 refine ‹∀ (a:Act) (w:World),Code.wp Tryz.prog _ _ a w→_› _ _ ?_
 exact rparse_tail12 s w w1 c0 c21 q3 _ _ _ _ _ _ _ _ _ _ _ _ _ _  out _ _ _ _ _ _ _ _ _ _ _ _ _ _ _ _ _ _ _ _ _ _ _ _ _ _ _ _ _ _ _ _ _ _ _ _ _ _ _ _ _ _ _ _ _ _ _ _ _ _ _ _ _ _ _ _ _ _ _ _ _ _ _ _ _ _ _ _ _ _ _ _ _ _ _ _ _ _ _ _ _ _ _ _ _ _ _ _ _ _ _ _ _ _ _ _ _ _ _ _ _ _ _ _ _ _ _ _ _ _ _ _ _ _ _ _ _ _ _ _ _ _ _ _ _ _ _ _ _ _ _ _ _ _ _ _ _ _ _ _ _ _ _ _ _ _ _ _ _ _ _ _ _ _ _ _ _ _ _ _ _ _ _ _ _ _ _ _ _ _ _ _ _ _ _ _ _ _ _ _ _ _ _ _ _ _ _ _ _ _ _ _  hs s3 I21.out HB' HBE' I0.out r22 r24 HO.out
end Go.Proofs.YtfdmdmahddjjmaaGreatDoor.St
namespace Go.Proofs.YtfdmdmahddjjmaaGreatDoor.St
open Go.RowKit Own
theorem str_get (l:List UInt8) (k:Nat) (h:k < (str l).size):(str l)[k]'h = l.getD k 0:=by
 have h2:k < l.length:=by rw [str_size] at h;exact h
 have:(str l)[k]'h = l[k]'h2:=rfl
 rw [this]
 simp [List.getD,h2]
def rparseP (l:List UInt8):Int × Int :=
 if l.length ≠ 26 then (0,80)
 else if bad1 (l.getD 2 0) (l.getD 6 0) (l.getD 11 0) (l.getD 14 0) (l.getD 17 0) (l.getD 20 0) (l.getD 21 0) = true then (0,80)
 else if bad2 (dayQ l) (sl 7 11 l) (sl 12 14 l) (sl 15 17 l) (sl 18 20 l) (sl 22 24 l) (sl 24 26 l) (l.getD 0 0) = true then (0,80)
 else momP ((secPair (digN (sl 7 11 l)) (lastM (sl 3 6 l) 12) (digN (dayQ l)) (digN (sl 12 14 l)) (digN (sl 15 17 l)) (digN (sl 18 20 l))).1 + (if l.getD 21 0 = 43 then -(digN (sl 22 24 l) * 3600 + digN (sl 24 26 l) * 60) else digN (sl 22 24 l) * 3600 + digN (sl 24 26 l) * 60)) (secPair (digN (sl 7 11 l)) (lastM (sl 3 6 l) 12) (digN (dayQ l)) (digN (sl 12 14 l)) (digN (sl 15 17 l)) (digN (sl 18 20 l))).2
theorem head_get (l:List UInt8):l.headD 0 = l.getD 0 0:=by cases l <;> rfl
theorem rparse_any (l:List UInt8) (w:World) :
  Calls Tryz.prog 75 #[.string (str l)] w fun e w'=>e = .returned (parseV (rparseP l))∧Below w.heap.size w w':=by
 unfold rparseP
 by_cases h:l.length = 26
 · rw [if_neg (by simp [h])]
   have hsz:(str l).size = 26:=by rw [str_size,h]
   by_cases hb:bad1 (l.getD 2 0) (l.getD 6 0) (l.getD 11 0) (l.getD 14 0) (l.getD 17 0) (l.getD 20 0) (l.getD 21 0) = true
   · rw [if_pos hb]
     exact (rparse_first (str l) _ _ _ _ _ _ _ w hsz hb (str_get l 2) (str_get l 6) (str_get l 11) (str_get l 14) (str_get l 17) (str_get l 20) (str_get l 21)).mono fun _ _ ⟨he,hw⟩=>⟨he,hw ▸ Below.refl _ _⟩
   · rw [if_neg hb]
     have n:∀ a b,b ≤ 26→b ≤ a + 8→(sl a b l).length ≤ 8:=fun a b h1 h2=>by rw [sl_len _ _ _ (by omega)];omega
     refine rparse_second (str l) (l.getD 0 0) _ _ _ _ _ _ (l.getD 21 0) (dayQ l) (sl 3 6 l) (sl 7 11 l) (sl 12 14 l) (sl 15 17 l) (sl 18 20 l) (sl 22 24 l) (sl 24 26 l) w hsz (by simpa using hb) (str_get l 0) (str_get l 2) (str_get l 6) (str_get l 11) (str_get l 14) (str_get l 17) (str_get l 20) (str_get l 21) ?_ ?_ (str_sl l 3 6) (str_sl l 7 11) (str_sl l 12 14) (str_sl l 15 17) (str_sl l 18 20) (str_sl l 22 24) (str_sl l 24 26) ?_ (n _ _ (by omega) (by omega)) (n _ _ (by omega) (by omega)) (n _ _ (by omega) (by omega)) (n _ _ (by omega) (by omega)) (n _ _ (by omega) (by omega)) (n _ _ (by omega) (by omega)) _ rfl
     · intro h0
       rw [str_sl];unfold dayQ;rw [if_pos (by rw [head_get];exact h0)]
     · intro h0
       rw [str_sl];unfold dayQ;rw [if_neg (by rw [head_get];exact h0)]
     · unfold dayQ;split
       · exact n 1 2 (by omega) (by omega)
       · exact n 0 2 (by omega) (by omega)
 · rw [if_pos (by simpa using h)]
   exact (rparse_len l w h).mono fun _ _ ⟨he,hw⟩=>⟨he,hw ▸ Below.refl _ _⟩
def monT:List UInt8:=monLit.data.toList
def at3 (i:Nat):List UInt8:=(monT.drop i).take 3
theorem lastM_at:∀ i,i < 34→(i % 3 = 0→lastM (at3 i) 12 = ((i / 3 + 1:Nat):Int))∧(i % 3 ≠ 0→lastM (at3 i) 12 = 0):=by
 decide
theorem monB_at:∀ k,k < 12→monB ((k + 1:Nat):Int) = str (at3 (3 * k)):=by
 decide
theorem lastM_none (q:List UInt8) (h:∀ k,k < 12→q ≠ at3 (3 * k)):∀ n,n ≤ 12→lastM q n = 0
 | 0,_=>rfl
 | n + 1,hn=>by
   unfold lastM
   rw [if_neg]
   · exact lastM_none q h n (by omega)
   · intro e
     rw [monB_at n (by omega)] at e
     exact h n (by omega) (str_inj e).symm
theorem month_law (q:List UInt8) (hq:q.length = 3) :
  (0 ≤ Lib.index monT q∧Lib.index monT q % 3 = 0→lastM q 12 = Lib.index monT q / 3 + 1)∧(Lib.index monT q < 0∨0 < Lib.index monT q % 3→lastM q 12 = 0):=by
 have hlen:monT.length = 36:=rfl
 rcases Lib.index_spec monT q with ⟨h1,h2⟩ | ⟨i,h1,h2,h3,_⟩
 · refine ⟨fun h=>by omega,fun _=>?_⟩
   apply lastM_none q _ 12 (by omega)
   intro k hk e
   have:=h2 (3 * k) (by omega)
   rw [Lib.occAt_iff_take monT q (3 * k) (by omega),hq] at this
   rw [show (monT.drop (3 * k)).take 3 = q from e.symm] at this
   simp at this
 · have hr:i + 3 ≤ 36:=by
     rcases Lib.occAt_room h3 with h | h
     · omega
     · rw [h] at hq;simp at hq
   rw [Lib.occAt_iff_take monT q i (by omega),hq] at h3
   have hqi:q = at3 i:=(by simpa using h3:(monT.drop i).take 3 = q).symm
   have:=lastM_at i (by omega)
   rw [← hqi] at this
   rw [h1]
   refine ⟨fun ⟨_,h⟩=>?_,fun h=>?_⟩
   · rw [this.1 (by omega)];omega
   · exact this.2 (by omega)
theorem dig0_32 (l:List UInt8) (h:l.headD 0 = 32):dig0 l = 48:=if_pos h
theorem dig0_ne (l:List UInt8) (h:¬ l.headD 0 = 32):dig0 l = l.headD 0:=if_neg h
theorem dayQ_32 (l:List UInt8) (h:l.headD 0 = 32):dayQ l = sl 1 2 l:=if_pos h
theorem dayQ_ne (l:List UInt8) (h:¬ l.headD 0 = 32):dayQ l = sl 0 2 l:=if_neg h
theorem shB_of_dig (k:Nat) (c:UInt8) (h:isDig c):shB k c = 57:=by unfold shB;rw [if_pos h]
theorem digB_two (a b:UInt8) (h:digB [a,b] = true):isDig a∧isDig b:=by
 have:=of_decide_eq_true h
 exact ⟨this a (by simp),this b (by simp)⟩
theorem digB_one (a:UInt8) (h:digB [a] = true):isDig a:=(of_decide_eq_true h) a (by simp)
theorem digB_four (a b c d:UInt8) (h:digB [a,b,c,d] = true):isDig a∧isDig b∧isDig c∧isDig d:=by
 have:=of_decide_eq_true h
 exact ⟨this a (by simp),this b (by simp),this c (by simp),this d (by simp)⟩
theorem shape_of (l:List UInt8) (h:l.length = 26)
  (hb1:bad1 (l.getD 2 0) (l.getD 6 0) (l.getD 11 0) (l.getD 14 0) (l.getD 17 0) (l.getD 20 0) (l.getD 21 0) = false)
  (hb2:digB (dayQ l) = true∧digB (sl 7 11 l) = true∧digB (sl 12 14 l) = true∧digB (sl 15 17 l) = true∧digB (sl 18 20 l) = true∧digB (sl 22 24 l) = true∧digB (sl 24 26 l) = true) :
  shL (restL l) = patL:=by
 obtain ⟨c0,c1,c2,c3,c4,c5,c6,c7,c8,c9,c10,c11,c12,c13,c14,c15,c16,c17,c18,c19,c20,c21,c22,c23,c24,c25,rfl⟩:=list26 l h
 obtain ⟨p0,p7,p12,p15,p18,p22,p24⟩:=hb2
 have d12:=digB_two c12 c13 p12
 have d15:=digB_two c15 c16 p15
 have d18:=digB_two c18 c19 p18
 have d22:=digB_two c22 c23 p22
 have d24:=digB_two c24 c25 p24
 have d7:=digB_four c7 c8 c9 c10 p7
 have d0:isDig (dig0 [c0,c1,c2,c3,c4,c5,c6,c7,c8,c9,c10,c11,c12,c13,c14,c15,c16,c17,c18,c19,c20,c21,c22,c23,c24,c25])∧isDig c1:=by
  by_cases e:[c0,c1,c2,c3,c4,c5,c6,c7,c8,c9,c10,c11,c12,c13,c14,c15,c16,c17,c18,c19,c20,c21,c22,c23,c24,c25].headD 0 = 32
  · rw [dayQ_32 _ e] at p0
    rw [dig0_32 _ e]
    exact ⟨⟨by decide,by decide⟩,digB_one c1 p0⟩
  · rw [dayQ_ne _ e] at p0
    rw [dig0_ne _ e]
    exact digB_two c0 c1 p0
 have hr:restL [c0,c1,c2,c3,c4,c5,c6,c7,c8,c9,c10,c11,c12,c13,c14,c15,c16,c17,c18,c19,c20,c21,c22,c23,c24,c25] = dig0 [c0,c1,c2,c3,c4,c5,c6,c7,c8,c9,c10,c11,c12,c13,c14,c15,c16,c17,c18,c19,c20,c21,c22,c23,c24,c25] :: (sl 1 3 [c0,c1,c2,c3,c4,c5,c6,c7,c8,c9,c10,c11,c12,c13,c14,c15,c16,c17,c18,c19,c20,c21,c22,c23,c24,c25] ++ [120,120,120] ++ sl 6 26 [c0,c1,c2,c3,c4,c5,c6,c7,c8,c9,c10,c11,c12,c13,c14,c15,c16,c17,c18,c19,c20,c21,c22,c23,c24,c25]):=by
  unfold restL
  rw [encL_small _ (by have:=d0.1;unfold isDig at this;omega)]
  rfl
 rw [hr]
 generalize dig0 [c0,c1,c2,c3,c4,c5,c6,c7,c8,c9,c10,c11,c12,c13,c14,c15,c16,c17,c18,c19,c20,c21,c22,c23,c24,c25] = d at *
 simp [bad1] at hb1
 obtain ⟨⟨⟨⟨⟨⟨e2,e6⟩,e11⟩,e14⟩,e17⟩,e20⟩,e21⟩:=hb1
 have e21':shB 21 c21 = 43:=by
  by_cases e:c21 = 43
  · rw [e];decide
  · rw [e21 e];decide
 subst e2 e6 e11 e14 e17 e20
 simp only [sl,List.take_succ_cons,List.take_zero,List.drop_succ_cons,List.drop_zero,List.cons_append,List.nil_append,shL,List.mapIdx_cons,List.mapIdx_nil,patL,Nat.zero_add,Nat.reduceAdd]
 rw [shB_of_dig 0 d d0.1,shB_of_dig _ c1 d0.2,shB_of_dig _ c7 d7.1,shB_of_dig _ c8 d7.2.1,shB_of_dig _ c9 d7.2.2.1,shB_of_dig _ c10 d7.2.2.2,shB_of_dig _ c12 d12.1,shB_of_dig _ c13 d12.2,shB_of_dig _ c15 d15.1,shB_of_dig _ c16 d15.2,shB_of_dig _ c18 d18.1,shB_of_dig _ c19 d18.2,shB_of_dig _ c22 d22.1,shB_of_dig _ c23 d22.2,shB_of_dig _ c24 d24.1,shB_of_dig _ c25 d24.2,e21']
 decide
theorem digB_of {l:List UInt8} (h:∀ c ∈ l,isDig c):digB l = true:=decide_eq_true h
theorem digN_of {l:List UInt8} (h:∀ c ∈ l,isDig c):digN l = numI 0 l:=by unfold digN;rw [if_pos (digB_of h)]
theorem parse_eq (l:List UInt8):parseP l = rparseP l:=by
 unfold rparseP parseP
 by_cases h:l.length = 26
 case neg=>rw [if_pos (.inl h),if_pos h]
 rw [if_neg (c:=l.length ≠ 26) (by simp [h])]
 by_cases h0:l.headD 0 = 48
 · rw [if_pos (.inr h0)]
   split
   · rfl
   · rw [if_pos]
     rw [head_get] at h0
     unfold bad2
     rw [h0]
     simp
 rw [if_neg (by rintro (c | c);exact c h;exact h0 c)]
 by_cases hs:shL (restL l) = patL
 case neg =>
  rw [if_pos (.inr (.inr hs))]
  split
  · rfl
  · rename_i hb1
    split
    · rfl
    · rename_i hb2
      exfalso
      apply hs
      apply shape_of l h (by simpa using hb1)
      simp [bad2] at hb2
      simp [hb2]
 have hS:=shape_says l h hs
 obtain ⟨z0,zr,z1,z2,z6,z7,z11,z12,z14,z15,z17,z18,z20,z21,z22,z24⟩:=hS
 have hb1:bad1 (l.getD 2 0) (l.getD 6 0) (l.getD 11 0) (l.getD 14 0) (l.getD 17 0) (l.getD 20 0) (l.getD 21 0) = false:=by
  simp only [List.getD,z2,z6,z11,z14,z17,z20]
  rcases z21 with e | e <;> simp [bad1,e]
 have hday:(∀ c ∈ dayQ l,isDig c)∧numI 0 (dayQ l) = numI 0 (sl 0 2 (restL l)):=by
  rw [zr]
  obtain ⟨c0,c1,c2,c3,c4,c5,c6,c7,c8,c9,c10,c11,c12,c13,c14,c15,c16,c17,c18,c19,c20,c21,c22,c23,c24,c25,rfl⟩:=list26 l h
  have hd1:isDig c1:=z1 c1 (by simp [sl])
  by_cases e:[c0,c1,c2,c3,c4,c5,c6,c7,c8,c9,c10,c11,c12,c13,c14,c15,c16,c17,c18,c19,c20,c21,c22,c23,c24,c25].headD 0 = 32
  · rw [dig0_32 _ e,dayQ_32 _ e]
    refine ⟨fun c hc=>?_,?_⟩
    · simp [sl] at hc;rw [hc];exact hd1
    · simp [sl,numI]
  · rw [dig0_ne _ e] at z0
    rw [dig0_ne _ e,dayQ_ne _ e]
    refine ⟨fun c hc=>?_,?_⟩
    · simp [sl] at hc
      rcases hc with hc | hc <;> rw [hc]
      · exact z0
      · exact hd1
    · simp [sl,numI]
 have hhead:(l.getD 0 0 == 48) = false:=by rw [head_get] at h0;exact beq_eq_false_iff_ne.mpr h0
 rw [if_neg (c:=bad1 _ _ _ _ _ _ _ = true) (by rw [hb1];decide)]
 have hb2:bad2 (dayQ l) (sl 7 11 l) (sl 12 14 l) (sl 15 17 l) (sl 18 20 l) (sl 22 24 l) (sl 24 26 l) (l.getD 0 0) = !(zoneB l):=by
  unfold bad2 zoneB
  rw [digB_of hday.1,digB_of z7,digB_of z12,digB_of z15,digB_of z18,digB_of z22,digB_of z24,hhead,digN_of z22,digN_of z24]
  by_cases a:numI 0 (sl 22 24 l) ≤ 14 <;> by_cases b:numI 0 (sl 24 26 l) ≤ 59
  · simp [a,b,show ¬ 14 < numI 0 (sl 22 24 l) by omega,show ¬ 59 < numI 0 (sl 24 26 l) by omega]
  · simp [a,b,show ¬ 14 < numI 0 (sl 22 24 l) by omega,show 59 < numI 0 (sl 24 26 l) by omega]
  · simp [a,b,show 14 < numI 0 (sl 22 24 l) by omega,show ¬ 59 < numI 0 (sl 24 26 l) by omega]
  · simp [a,b,show 14 < numI 0 (sl 22 24 l) by omega,show 59 < numI 0 (sl 24 26 l) by omega]
 rw [hb2,digN_of z7,digN_of hday.1,digN_of z12,digN_of z15,digN_of z18,digN_of z22,digN_of z24,hday.2]
 have hml:=month_law (sl 3 6 l) (sl_len l 3 6 (by omega))
 have hmi:monI l = Lib.index monT (sl 3 6 l):=rfl
 rw [← hmi] at hml
 by_cases hm:monI l < 0∨0 < monI l % 3
 · have h12:=hml.2 hm
   rw [if_pos (by rcases hm with c | c;exact .inl c;exact .inr (.inl c)),h12]
   have hv:∀ y d hh mi s,(secPair y 0 d hh mi s).2 = false:=by
    intro y d hh mi s
    unfold secPair
    rw [if_neg (by unfold Valid;omega)]
   rw [hv]
   split
   · rfl
   · simp [momP]
 · have h12:=hml.1 (by omega)
   rw [if_neg (by rintro (c | c | c);exact hm (.inl c);exact hm (.inr c);exact c hs),h12]
   unfold secsP offI
   cases hz:zoneB l with
   | true=>simp
   | false=>simp [momP]
end Go.Proofs.YtfdmdmahddjjmaaGreatDoor.St
