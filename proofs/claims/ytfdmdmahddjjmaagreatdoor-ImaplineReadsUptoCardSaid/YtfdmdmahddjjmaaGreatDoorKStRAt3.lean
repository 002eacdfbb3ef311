/-
  The reference's seconds of a date that there is.
-/
import Derived.Test.YtfdmdmahddjjmaaGreatDoorPkSt
set_option linter.unusedVariables false
set_option linter.unusedSimpArgs false
set_option maxRecDepth 100000
namespace Go.Proofs.YtfdmdmahddjjmaaGreatDoor.St
open Go.RowKit Own
set_option maxHeartbeats 4000000 in
theorem at_ok (y m d h mi s wd:Int) (w:World) (hv:Valid y m d h mi s) :
  Calls Tryz.prog 110 #[.agg (time7 y m d h mi s wd)] w fun e w'=>e = .returned (.tuple #[.int .i64 (secsOf y m d h mi s),.bool true])∧Below w.heap.size w w':=by
 unfold time7
 have fin:∀ (o:Obj) n,Below w.heap.size w ((w.alloc o).drewN n):=fun o n=>below_drewN ((Below.refl _ _).alloc (Nat.le_refl _) o) n
 have hblk:∀ (o:Obj) n,((w.alloc o).drewN n).heap[w.heap.size]? = some o:=fun o n=>heap_alloc_new w o
 obtain ⟨v0,v1,v2,v3,v4,v5,v6,v7,v8,v9,v10,v11⟩:=hv
 have e0:decide (y < 1999) = false:=decide_eq_false (by omega)
 have e1:decide (2137 < y) = false:=decide_eq_false (by omega)
 have e2:decide (m < 1) = false:=decide_eq_false (by omega)
 have e3:decide (12 < m) = false:=decide_eq_false (by omega)
 have e4:decide (d < 1) = false:=decide_eq_false (by omega)
 have e5:decide (Date.mlen y m < d) = false:=decide_eq_false (by omega)
 have e6:decide (h < 0) = false:=decide_eq_false (by omega)
 have e7:decide (23 < h) = false:=decide_eq_false (by omega)
 have e8:decide (mi < 0) = false:=decide_eq_false (by omega)
 have e9:decide (59 < mi) = false:=decide_eq_false (by omega)
 have e10:decide (s < 0) = false:=decide_eq_false (by omega)
 have e11:decide (59 < s) = false:=decide_eq_false (by omega)
 have hml:=Date.mlen_rng y m
 have hdb1:=Date.dby_mono (show 1999 ≤ y by omega)
 have hdb2:=Date.dby_mono (show y ≤ 2137 by omega)
 rw [show Date.dby 1999 = -365 by decide] at hdb1
 rw [show Date.dby 2137 = 50039 by decide] at hdb2
 have yr:0 ≤ y∧y ≤ 100000:=by omega
 have mr:1 ≤ m∧m ≤ 12:=by omega
 have dr:1 ≤ d∧d ≤ 31:=by omega
 go_enter Tryz.func110,Tryz.ntmps110
 go_upto_region 1 with fail
 go_cut [69] (fun v69 wr=>v69 = .bool false∧wr.heap[w.heap.size]? = some (.cells #[.int .i64 y,.int .i64 m,.int .i64 d,.int .i64 h,.int .i64 mi,.int .i64 s,.int .i64 wd] 107 (0,0))∧Below w.heap.size w wr)
 case first =>
  go_quiet ((go_at_call 139;exact Calls.quiet_of_same ((rdays_any _ _ _ yr.1 yr.2).mono fun _ _ ⟨he,hw⟩=>⟨he,hw.symm⟩)))
  go_step
  go_step
  go_meet
  case rel=>exact ⟨rfl,hblk _ _,fin _ _⟩
 case rest =>
 clear e0 e1 e2 e3 e4 e5 e6 e7 e8 e9 e10 e11 fin hblk
 obtain ⟨rfl,hb2,hbl2⟩:=hcut
 obtain ⟨w2,hw2⟩:∃ w2:World,w2 = wc:=⟨_,rfl⟩
 rw [← hw2] at hb2 hbl2
 rw [← hw2]
 clear hw2
 have z2:=cells_at hb2 2
 have HB2:=hid hb2
 have HBL2:=hid hbl2
 clear hb2 hbl2
 go_wp2_with fail
 go_loopw [4,5] (fun v4 v5 wr=>∃ k:Int,1 ≤ k∧k ≤ m∧v4 = .int .i64 (d - 1 + Date.cum y k)∧v5 = .int .i64 k∧wr.heap[w.heap.size]? = some (.cells #[.int .i64 y,.int .i64 m,.int .i64 d,.int .i64 h,.int .i64 mi,.int .i64 s,.int .i64 wd] 107 (0,0))∧Below w.heap.size w wr) (fun _ v5 _=>(m - intOf v5).toNat)
 case atStart=>exact ⟨1,by omega,mr.1,by rw [Date.cum_1];go_num,rfl,HB2.out,HBL2.out⟩
 case round =>
  obtain ⟨k,hk1,hk2,rfl,rfl,hB,hbel⟩:=hrel
  have c0:=cells_at hB 0
  have c1:=cells_at hB 1
  have HB:=hid hB
  have HBE:=hid hbel
  have hcr:=Date.cum_rng y k hk1 (by omega)
  have hcs:=Date.cum_succ y k hk1 (by omega)
  have hmk:=Date.mlen_rng y k
  have HCS:=hid hcs
  clear hB hbel hcs z2
  by_cases hkm:k < m
  · have t1:decide (k < m) = true:=decide_eq_true hkm
    have HK:=hid hkm
    clear hkm
    go_wp2_with (first | (go_at_call 139;refine (rdays_any _ _ _ yr.1 yr.2).mono ?_;rintro e w1 ⟨rfl,rfl⟩))
    go_roundw
    case rel=>exact ⟨k + 1,by omega,by have:=HK.out;omega,by rw [HCS.out];go_num,rfl,HB.out,HBE.out⟩
    case measure=>have:=HK.out;simp [intOf];omega
  · have t1:decide (k < m) = false:=decide_eq_false hkm
    have hkm':k = m:=by omega
    clear hkm
    subst hkm'
    go_wp2_with fail
    go_loopw [4,6] (fun v4 v6 wr=>∃ q:Int,2000 ≤ q∧(q ≤ y∨q = 2000)∧v4 = .int .i64 (d - 1 + Date.cum y k + Date.dby q)∧v6 = .int .i64 q∧wr.heap[w.heap.size]? = some (.cells #[.int .i64 y,.int .i64 k,.int .i64 d,.int .i64 h,.int .i64 mi,.int .i64 s,.int .i64 wd] 107 (0,0))∧Below w.heap.size w wr) (fun _ v6 _=>(2200 - intOf v6).toNat)
    case atStart=>exact ⟨2000,by omega,.inr rfl,by rw [Date.dby_2000];go_num,rfl,HB.out,HBE.out⟩
    case round =>
     obtain ⟨q,hq1,hq2,rfl,rfl,hB3,hbel3⟩:=hrel
     have x0:=cells_at hB3 0
     have x3:=cells_at hB3 3
     have x4:=cells_at hB3 4
     have x5:=cells_at hB3 5
     have HB3:=hid hB3
     have HBE3:=hid hbel3
     have hqm:=Date.dby_mono (show 2000 ≤ q by omega)
     have hqn:=Date.dby_mono (show q ≤ 2137 by omega)
     rw [Date.dby_2000] at hqm
     rw [show Date.dby 2137 = 50039 by decide] at hqn
     have hqs:=Date.dby_succ q
     have HQS:=hid hqs
     clear hB3 hbel3 hqs c0 c1
     by_cases hqy:q < y
     · have t2:decide (q < y) = true:=decide_eq_true hqy
       have hqr:0 ≤ q∧q ≤ 100000:=by omega
       have HQ:=hid hqy
       clear hqy
       cases hl:Date.leap q with
       | true =>
        have hlp:Date.lp q = 1:=by simp [Date.lp,hl]
        go_wp2_with (first | (go_at_call 140;refine (rleap_any _ _ hqr.1 hqr.2).mono ?_;rintro e w1 ⟨rfl,rfl⟩))
        go_roundw
        case rel=>exact ⟨q + 1,by omega,.inl (by have:=HQ.out;omega),by rw [HQS.out,hlp];go_num,rfl,HB3.out,HBE3.out⟩
        case measure=>have:=HQ.out;simp [intOf];omega
       | false =>
        have hlp:Date.lp q = 0:=by simp [Date.lp,hl]
        go_wp2_with (first | (go_at_call 140;refine (rleap_any _ _ hqr.1 hqr.2).mono ?_;rintro e w1 ⟨rfl,rfl⟩))
        go_roundw
        case rel=>exact ⟨q + 1,by omega,.inl (by have:=HQ.out;omega),by rw [HQS.out,hlp];go_num,rfl,HB3.out,HBE3.out⟩
        case measure=>have:=HQ.out;simp [intOf];omega
     · have t2:decide (q < y) = false:=decide_eq_false hqy
       by_cases h99:y = 1999
       · have hq:q = 2000:=by omega
         have t3:(y == 1999) = true:=by simpa using h99
         have hd2:=Date.dby_2000
         have hd1:Date.dby 1999 = -365:=by decide
         subst hq h99
         have HD:=hid (And.intro hd2 hd1)
         clear hd1 hqy
         go_wp2
         exact bodyPost_ret (v:=.tuple #[.int .i64 (secsOf 1999 k d h mi s),.bool true]) (by simp [results,Tryz.results110,go_sem,secsOf];have:=HD.out;omega) rfl ⟨rfl,HBE3.out⟩
       · have hq:q = y:=by omega
         have t3:(y == 1999) = false:=by simpa using h99
         subst hq
         clear h99 hqy
         go_wp2
         exact bodyPost_ret (v:=.tuple #[.int .i64 (secsOf q k d h mi s),.bool true]) (by simp [results,Tryz.results110,go_sem,secsOf];omega) rfl ⟨rfl,HBE3.out⟩
end Go.Proofs.YtfdmdmahddjjmaaGreatDoor.St
