/-
  The reference: a key that is a set, or a flag's name.
-/
import Derived.Test.YtfdmdmahddjjmaaGreatDoorPkRc
import Derived.Test.YtfdmdmahddjjmaaGreatDoorPkKy
import Derived.Test.YtfdmdmahddjjmaaGreatDoorPkRf
set_option linter.unusedVariables false
set_option linter.unusedSimpArgs false
set_option maxRecDepth 100000
namespace Go.Proofs.YtfdmdmahddjjmaaGreatDoor
open Go.RowKit Own Im
attribute [local go_sem] str_toList str_size
def namesG:List Bt:=[[83,69,69,78],[65,78,83,87,69,82,69,68],[70,76,65,71,71,69,68],[68,69,76,69,84,69,68],[68,82,65,70,84]]
theorem flag_names (nm:Bt) (i:Nat):flagAt nm = some i ↔ namesG[i]? = some nm:=by
 have hr:=flag_ways nm
 rcases hr with ⟨rfl,h⟩ | ⟨rfl,h⟩ | ⟨rfl,h⟩ | ⟨rfl,h⟩ | ⟨rfl,h⟩ | ⟨e0,e1,e2,e3,e4,h⟩
 all_goals rw [h]
 all_goals rcases i with _ | _ | _ | _ | _ | i
 all_goals first
  | (simp [namesG];done)
  | (simp only [beq_eq_false_iff_ne,ne_eq] at *;simp [namesG];first | exact fun h=>e0 h.symm | exact fun h=>e1 h.symm | exact fun h=>e2 h.symm | exact fun h=>e3 h.symm | exact fun h=>e4 h.symm)
theorem takes_inv {wd nm:Bt} {un:Bool} (h:takes [85,78] wd = (un,nm)):wd = if un = true then 85 :: 78 :: nm else nm:=by
 cases un with
 | false=>exact (takes_no h).symm
 | true =>
  unfold takes at h
  split at h
  · rename_i hp
    injection h with h1 h2
    rcases wd with _ | ⟨a,_ | ⟨c,r⟩⟩
    · simp [Lib.hasPrefix] at hp
    · simp [Lib.hasPrefix,List.isPrefixOf] at hp
    · simp [Lib.hasPrefix,List.isPrefixOf] at hp
      obtain ⟨rfl,rfl⟩:=hp
      rw [← h2]
      rfl
  · cases h
theorem names_word {wd nm y:Bt} {un:Bool} (h:takes [85,78] wd = (un,nm)) (hy:Lib.hasPrefix y [85,78] = false):(wd = y ↔ un = false∧nm = y)∧(wd = 85 :: 78 :: y ↔ un = true∧nm = y):=by
 have hw:=takes_inv h
 cases un with
 | false =>
  have hp:Lib.hasPrefix wd [85,78] = false:=by rw [← takes_fst,h]
  rw [if_neg (by simp)] at hw
  subst hw
  refine ⟨by simp,⟨fun e=>?_,fun e=>by cases e.1⟩⟩
  rw [e] at hp
  simp [Lib.hasPrefix,List.isPrefixOf] at hp
 | true =>
  rw [if_pos rfl] at hw
  subst hw
  refine ⟨⟨fun e=>?_,fun e=>by cases e.1⟩,by simp⟩
  rw [← e] at hy
  simp [Lib.hasPrefix,List.isPrefixOf] at hy
theorem namesG_un:∀ y ∈ namesG,Lib.hasPrefix y [85,78] = false:=by decide
theorem cell_far {w:World} {g i d j:Nat} {v:Value} (h:w.cell? ⟨g,i,none⟩ = some v) (hg:g ≠ d) (y:Value):(w.setCell ⟨d,j,none⟩ y).cell? ⟨g,i,none⟩ = some v:=by
 unfold World.cell? at h ⊢
 rw [Below.heap_setCell w ⟨d,j,none⟩ y g hg]
 exact h
theorem cell_drew {w:World} {p:Addr} {v:Value} (h:w.cell? p = some v):w.drew.cell? p = some v:=h
theorem names_lit (w:World):∀ (j:Nat) (y:Bt),namesG[j]? = some y→(w.alloc (.cells #[.string ⟨#[83,69,69,78]⟩,.string ⟨#[65,78,83,87,69,82,69,68]⟩,.string ⟨#[70,76,65,71,71,69,68]⟩,.string ⟨#[68,69,76,69,84,69,68]⟩,.string ⟨#[68,82,65,70,84]⟩] 9)).cell? ⟨w.heap.size,j,none⟩ = some (.string (str y)):=two_cells w namesG _ w.heap.size rfl rfl
set_option maxHeartbeats 16000000 in
theorem rkey_set (dp:Int) (b:Nat) (s:Bt) (bad:Bool) (w:World) (h:RtT w b s bad) (hh:headB s = true)  (R:Option (Ky × Bt)) (hR:R = keyS s) :
  Calls Tryz.prog 81 #[.pointer (some ⟨b,0,none⟩),.int .i64 dp] w fun e w'=>Goes b w s bad (vKey w.heap.size) R e w':=by
 have hblt:=h.lt
 have hdb:w.heap.size ≠ b:=by omega
 have a1:Below w.heap.size w (w.alloc (.cells #[.int .i64 0,.bool false,.string ⟨#[]⟩,.int .i64 0,.slice none 0 0] 39)):=(Below.refl _ _).alloc (Nat.le_refl _) _
 have R1:=hid (h.below a1)
 have O1:=hid (Only.of a1 (Nat.le_of_lt hblt))
 have Z1:Hid (KyB (w.alloc (.cells #[.int .i64 0,.bool false,.string ⟨#[]⟩,.int .i64 0,.slice none 0 0] 39)) w.heap.size (.int .i64 0) (.bool false) (.string ⟨#[]⟩) (.int .i64 0) (.slice none 0 0)):=hid (heap_alloc_new w _)
 have II:=hid ((Inv.start bad R).to fun _=>hR)
 clear hR h a1
 go_enter Tryz.func81,Tryz.ntmps81
 go_upto_region 1 with fail
 go_cut [30] from 9 to 29 (fun v30 wx=>v30 = .bool true∧wx = (w.alloc (.cells #[.int .i64 0,.bool false,.string ⟨#[]⟩,.int .i64 0,.slice none 0 0] 39)))
 case first =>
  have hc0:=R1.out.c0
  rcases s with _ | ⟨c,s'⟩
  · cases hh
  · have hix:∀ h:0 < (str (c :: s')).size,(str (c :: s'))[0] = c:=fun h=>rfl
    have hz:=str_size (c :: s')
    have hdg:=fun W=>rdigit_any c W
    have h42:((c.toNat:Int) == 42) = decide (c = 42):=byte_eq2 42 c
    have hh2:(isDg c || decide (c = 42)) = true:=hh
    obtain ⟨D,hD⟩:∃ D,isDg c = D:=⟨_,rfl⟩
    obtain ⟨E,hE⟩:∃ E,decide (c = 42) = E:=⟨_,rfl⟩
    rw [hD] at hdg hh2
    rw [hE] at h42 hh2
    clear hD hE hh
    have DG:=hid hdg
    clear hdg
    cases D <;> cases E
    · cases hh2
    all_goals
     go_wp2_with (go_at_call 38;refine (DG.out _).mono ?_;rintro e w9 ⟨rfl,rfl⟩)
     go_meet
     exact ⟨rfl,rfl⟩
 case rest =>
  obtain ⟨rfl,rfl⟩:=hcut
  have I1:=hid (show Inv bad R bad ((Im.set s).map fun q=>({ kind:=8,set:=q.1 },q.2)) from II.out)
  clear II
  go_wp2_with (go_at_call 78;refine (rset_any b s bad _ R1.out).mono ?_;rintro e w2 ⟨v2,l2,s2,d2,rfl,n2,r2,e2,o2,t2⟩;obtain ⟨A2,c2,rfl,-,-⟩:=n2.full;have hd2:=Z1.out.lt;have I2:=hid (I1.out.map t2);have N2:=hid n2;have O2:=hid (O1.out.trans o2);have z2:=Z1.out.only o2 hdb;have y0:=z2.c0;have yf0:=z2.free 0;have y1:=z2.c1;have yf1:=z2.free 1;have y2:=z2.c2;have yf2:=z2.free 2;have y3:=z2.c3;have yf3:=z2.free 3;have y4:=z2.c4;have yf4:=z2.free 4;have R2:=hid r2;have L2:=hid e2;clear n2 r2 e2 o2 t2 z2)
  refine bodyPost_ret (v:=.agg #[.int .i64 8,.bool false,.string (str []),.int .i64 0,.slice A2 l2.length c2]) (by first | (simp [results,Tryz.results81,go_sem,y0,y1,y2,y3,y4];done) | (simp [results,Tryz.results81,go_sem,y0,y1,y2,y3,y4];rfl)) rfl ?_
  exact ⟨_,{ kind:=8,set:=l2 },s2,d2,rfl,⟨_,rfl,((((((N2.out.stays ((setStays _ _ _ _).mono hd2)).stays ((setStays _ _ _ _).mono hd2)).stays ((setStays _ _ _ _).mono hd2)).stays ((setStays _ _ _ _).mono hd2)).stays ((setStays _ _ _ _).mono hd2)).mono (Nat.le_of_lt hd2))⟩,(((((R2.out.far hblt _).far hblt _).far hblt _).far hblt _).far hblt _),L2.out,(((((O2.out.setNew hblt (Nat.le_refl _) _).setNew hblt (Nat.le_refl _) _).setNew hblt (Nat.le_refl _) _).setNew hblt (Nat.le_refl _) _).setNew hblt (Nat.le_refl _) _),I2.out.out⟩
set_option maxHeartbeats 16000000 in
theorem rkey_flag (dp:Int) (b:Nat) (s:Bt) (bad:Bool) (w:World) (h:RtT w b s bad) (hh:headB s = false) (wd t1 nm:Bt) (un:Bool) (hw:Im.word s = (wd,t1)) (htk:takes [85,78] wd = (un,nm)) (i:Nat) (hq:flagAt nm = some i) (R:Option (Ky × Bt)) (hR:R = some ({ kind:=2,n:=((2 ^ i:Nat):Int),not:=un },t1)) :
  Calls Tryz.prog 81 #[.pointer (some ⟨b,0,none⟩),.int .i64 dp] w fun e w'=>Goes b w s bad (vKey w.heap.size) R e w':=by
 have HQ:=hid hq
 have HT:=hid htk
 have hblt:=h.lt
 have hdb:w.heap.size ≠ b:=by omega
 have a1:Below w.heap.size w (w.alloc (.cells #[.int .i64 0,.bool false,.string ⟨#[]⟩,.int .i64 0,.slice none 0 0] 39)):=(Below.refl _ _).alloc (Nat.le_refl _) _
 have R1:=hid (h.below a1)
 have O1:=hid (Only.of a1 (Nat.le_of_lt hblt))
 have Z1:Hid (KyB (w.alloc (.cells #[.int .i64 0,.bool false,.string ⟨#[]⟩,.int .i64 0,.slice none 0 0] 39)) w.heap.size (.int .i64 0) (.bool false) (.string ⟨#[]⟩) (.int .i64 0) (.slice none 0 0)):=hid (heap_alloc_new w _)
 have II:=hid ((Inv.start bad R).to fun _=>hR)
 have hwd:=fun W hW=>rword_any b s bad W hW
 have hle:=word_le s
 rw [hw] at hwd hle
 dsimp only at hwd hle
 clear hR h a1 hw
 go_enter Tryz.func81,Tryz.ntmps81
 go_upto_region 1 with fail
 go_cut [30] from 9 to 29 (fun v30 wx=>v30 = .bool false∧wx = (w.alloc (.cells #[.int .i64 0,.bool false,.string ⟨#[]⟩,.int .i64 0,.slice none 0 0] 39)))
 case first =>
  have hc0:=R1.out.c0
  rcases s with _ | ⟨c,s'⟩
  · go_wp2_with fail
    go_meet
    exact ⟨rfl,rfl⟩
  · have hix:∀ h:0 < (str (c :: s')).size,(str (c :: s'))[0] = c:=fun h=>rfl
    have hz:=str_size (c :: s')
    have hdg:=fun W=>rdigit_any c W
    have h42:((c.toNat:Int) == 42) = decide (c = 42):=byte_eq2 42 c
    have hh2:(isDg c || decide (c = 42)) = false:=hh
    obtain ⟨D,hD⟩:∃ D,isDg c = D:=⟨_,rfl⟩
    obtain ⟨E,hE⟩:∃ E,decide (c = 42) = E:=⟨_,rfl⟩
    rw [hD] at hdg hh2
    rw [hE] at h42 hh2
    clear hD hE hh
    have DG:=hid hdg
    clear hdg
    cases D <;> cases E
    · go_wp2_with (go_at_call 38;refine (DG.out _).mono ?_;rintro e w9 ⟨rfl,rfl⟩)
      go_meet
      exact ⟨rfl,rfl⟩
    all_goals cases hh2
 case rest =>
  obtain ⟨rfl,rfl⟩:=hcut
  clear htk
  have hi5:i < 5:=by rcases flagAt_lt hq with rfl | rfl | rfl | rfl | rfl <;> decide
  rcases flagAt_lt hq with rfl | rfl | rfl | rfl | rfl
  · clear hq
    go_wp2_with (go_at_call 32;refine (hwd _ R1.out).mono ?_;rintro e w2 ⟨rfl,r2,o2⟩;have a2:=(Below.refl w2.heap.size w2).alloc (Nat.le_refl _) (.cells #[.string ⟨#[83,69,69,78]⟩,.string ⟨#[65,78,83,87,69,82,69,68]⟩,.string ⟨#[70,76,65,71,71,69,68]⟩,.string ⟨#[68,69,76,69,84,69,68]⟩,.string ⟨#[68,82,65,70,84]⟩] 9);have hnl:=names_lit w2;have hgd:w2.heap.size ≠ w.heap.size:=(by have:=o2.size;simp at this;omega);have R2:=hid (r2.below a2);have O2:=hid (O1.out.trans (o2.trans (Only.of a2 (Nat.le_of_lt r2.lt))));have Z2:=hid ((Z1.out.only o2 hdb).below a2);clear r2 o2 a2)
    obtain ⟨W,hW⟩:∃ W,W = w2.alloc (.cells #[.string ⟨#[83,69,69,78]⟩,.string ⟨#[65,78,83,87,69,82,69,68]⟩,.string ⟨#[70,76,65,71,71,69,68]⟩,.string ⟨#[68,69,76,69,84,69,68]⟩,.string ⟨#[68,82,65,70,84]⟩] 9):=⟨_,rfl⟩
    rw [← hW] at hnl R2 O2 Z2
    rw [← hW]
    clear hW
    have HN:=hid hnl
    clear hnl
    go_loop [7] (fun v7=>∃ j:Nat,j ≤ 0∧v7 = .int .i64 j) (fun v7=>5 - (intOf v7).toNat)
    case atStart=>exact ⟨0,Nat.zero_le _,rfl⟩
    case round =>
     obtain ⟨j,hj,rfl⟩:=hrel
     obtain ⟨y,hy⟩:∃ y,namesG[j]? = some y:=⟨_,List.getElem?_eq_getElem (by simp [namesG];omega)⟩
     have hun:=namesG_un y (List.mem_of_getElem? hy)
     have hnw:=names_word HT.out hun
     have x1:=HN.out j y hy
     have hcat:(⟨#[85,78]⟩:ByteArray) ++ str y = str (85 :: 78 :: y):=by rw [show (⟨#[85,78]⟩:ByteArray) = str [85,78] from rfl,str_append];rfl
     have hyl : y.length ≤ 100 := by have h:∀ z ∈ namesG,z.length ≤ 100:=by decide
                                     exact h y (List.mem_of_getElem? hy)
     have i0:(0:Int) ≤ (j:Int):=by omega
     have i1:(j:Int) < 5:=by omega
     by_cases hjk:j = 0
     · subst hjk
       obtain rfl:y = nm:=Option.some.inj (hy.symm.trans ((flag_names nm 0).1 HQ.out))
       clear hy hun
       cases un with
       | false =>
        have e1:(wd == y) = true:=by simpa using hnw.1.2 ⟨rfl,rfl⟩
        have e3:(wd != y) = false:=by simp only [bne,e1];rfl
        have hw1:IntKind.i64.wrap 1 = 1:=by rw [IntKind.wrap_i64];omega
        clear hnw
        go_wp2_with fail
        have z2:=Z2.out
        have y0:=z2.c0
        have yf0:=z2.free 0
        have y1:=z2.c1
        have yf1:=z2.free 1
        have y2:=z2.c2
        have yf2:=z2.free 2
        have y3:=z2.c3
        have yf3:=z2.free 3
        have y4:=z2.c4
        have yf4:=z2.free 4
        clear z2
        refine wp_region_held_drew (S:=fun w'=>w'.cell? ⟨w2.heap.size,0,none⟩ = some (.string (str y))) (by kernel_rfl) x1 (fun hHeld=>?_)
        refine wpAnyH_take (i:=0) (oi:=_) (v:=?vf0f0) rfl (by kernel_rfl) (by kernel_rfl) (by kernel_rfl) (fun _ _ _ h=>h) (Or.inl ⟨by rfl,?yf0f0⟩) (by assumption) ?rf0f0
        case yf0f0=>(intro w hSw;(try dsimp only at hSw);go_simp;try with_reducible rfl)
        try simp only [sxa,sxb,sxc,Act.put,sxd,sxe,sxf]
        refine wpAnyH_take (i:=1) (oi:=_) (v:=?vf0f1) rfl (by kernel_rfl) (by kernel_rfl) (by kernel_rfl) (fun _ _ _ h=>h) (Or.inl ⟨by rfl,?yf0f1⟩) (by assumption) ?rf0f1
        case yf0f1=>(intro w hSw;(try dsimp only at hSw);go_simp;try with_reducible rfl)
        try simp only [sxa,sxb,sxc,Act.put,sxd,sxe,sxf]
        refine wpAnyH_take (i:=2) (oi:=_) (v:=?vf0f2) rfl (by kernel_rfl) (by kernel_rfl) (by kernel_rfl) (fun _ _ _ h=>h) (Or.inl ⟨by rfl,?yf0f2⟩) (by assumption) ?rf0f2
        case yf0f2=>(intro w hSw;(try dsimp only at hSw);go_simp;try with_reducible rfl)
        try simp only [sxa,sxb,sxc,Act.put,sxd,sxe,sxf]
        refine wpAnyH_take (i:=3) (oi:=_) (v:=?vf0f3) rfl (by kernel_rfl) (by kernel_rfl) (by kernel_rfl) (fun _ _ _ h=>h) (Or.inl ⟨by rfl,?yf0f3⟩) (by assumption) ?rf0f3
        case yf0f3=>(intro w hSw;(try dsimp only at hSw);go_simp;try with_reducible rfl)
        try simp only [sxa,sxb,sxc,Act.put,sxd,sxe,sxf]
        refine wpAnyH_take (i:=4) (oi:=_) (v:=?vf0f4) rfl (by kernel_rfl) (by kernel_rfl) (by kernel_rfl) (fun _ _ _ h=>h) (Or.inl ⟨by rfl,?yf0f4⟩) (by assumption) ?rf0f4
        case yf0f4=>(intro w hSw;(try dsimp only at hSw);go_simp;try with_reducible rfl)
        try simp only [sxa,sxb,sxc,Act.put,sxd,sxe,sxf]
        refine wpAnyH_take (i:=5) (oi:=_) (v:=?vf0f5) rfl (by kernel_rfl) (by kernel_rfl) (by kernel_rfl) (fun _ _ _ h=>h) (Or.inl ⟨by rfl,?yf0f5⟩) (by assumption) ?rf0f5
        case yf0f5=>(intro w hSw;(try dsimp only at hSw);go_simp;try with_reducible rfl)
        try simp only [sxa,sxb,sxc,Act.put,sxd,sxe,sxf]
        refine wpAnyH_take (i:=6) (oi:=_) (v:=?vf0f6) rfl (by kernel_rfl) (by kernel_rfl) (by kernel_rfl) (fun _ _ _ h=>h) (Or.inl ⟨by rfl,?yf0f6⟩) (by assumption) ?rf0f6
        case yf0f6=>(intro w hSw;(try dsimp only at hSw);have c_:=hSw;go_simp;try with_reducible rfl)
        try simp only [sxa,sxb,sxc,Act.put,sxd,sxe,sxf]
        refine wpAnyH_take (i:=7) (oi:=_) (v:=?vf0f7) rfl (by kernel_rfl) (by kernel_rfl) (by kernel_rfl) (fun _ _ _ h=>h) (Or.inl ⟨by rfl,?yf0f7⟩) (by assumption) ?rf0f7
        case yf0f7=>(intro w hSw;(try dsimp only at hSw);go_simp;try with_reducible rfl)
        try simp only [sxa,sxb,sxc,Act.put,sxd,sxe,sxf]
        refine wpAnyH_take (i:=8) (oi:=_) (v:=?vf0f8) rfl (by kernel_rfl) (by kernel_rfl) (by kernel_rfl) (fun _ _ _ h=>h) (Or.inl ⟨by rfl,?yf0f8⟩) (by assumption) ?rf0f8
        case yf0f8=>(intro w hSw;(try dsimp only at hSw);go_simp;try with_reducible rfl)
        try simp only [sxa,sxb,sxc,Act.put,sxd,sxe,sxf]
        refine wpAnyH_ready (rs:=[9]) (by kernel_rfl) (by simp) ?_
        refine AllReadyH.cons (o:=_) rfl (fun K hK=>?_) AllReadyH.nil
        go_simp
        refine hK.out _ _ ?hs1 (fun hHeld2=>?_)
        case hs1=>exact cell_drew (cell_far (cell_far (cell_far (cell_far (cell_far x1 hgd _) hgd _) hgd _) hgd _) hgd _)
        clear hK K hHeld
        have hHeld:=hHeld2
        clear hHeld2
        try simp only [sxa,sxb,sxc,Act.put,sxd,sxe,sxf]
        refine wpAnyH_done (by kernel_rfl) ?_ _
        have R3:=hid ((((((R2.out.far hblt (j:=0) (.int .i64 2)).far hblt (j:=1) (.bool false)).far hblt (j:=2) (.string ⟨#[]⟩)).far hblt (j:=3) (.int .i64 1)).far hblt (j:=4) (.slice none 0 0)))
        go_wp2_with fail
        refine bodyPost_ret (v:=.agg #[.int .i64 2,.bool false,.string (str []),.int .i64 1,.slice none 0 0]) (by first | (simp [results,Tryz.results81,go_sem,y0,y1,y2,y3,y4];done) | (simp [results,Tryz.results81,go_sem,y0,y1,y2,y3,y4];rfl)) rfl ?_
        exact ⟨_,{ kind:=2,n:=1,not:=false },t1,bad,rfl,⟨_,rfl,Sq.RBuf.nil (by have:=O2.out.size;simpa [World.setCell] using this)⟩,R3.out.drew,hle,((((((O2.out.setNew hblt (Nat.le_refl _) _).setNew hblt (Nat.le_refl _) _).setNew hblt (Nat.le_refl _) _).setNew hblt (Nat.le_refl _) _).setNew hblt (Nat.le_refl _) _).trans (Only.of (Below.refl _ _).drew (Nat.le_of_lt R3.out.lt))),II.out.out⟩
       | true =>
        have e1:(wd == y) = false:=beq_eq_false_iff_ne.2 fun h=>absurd (hnw.1.1 h).1 (by simp)
        have e2:(wd == 85 :: 78 :: y) = true:=by simpa using hnw.2.2 ⟨rfl,rfl⟩
        have e3:(wd != y) = true:=by simp only [bne,e1];rfl
        have hw1:IntKind.i64.wrap 1 = 1:=by rw [IntKind.wrap_i64];omega
        clear hnw
        go_wp2_with fail
        have z2:=Z2.out
        have y0:=z2.c0
        have yf0:=z2.free 0
        have y1:=z2.c1
        have yf1:=z2.free 1
        have y2:=z2.c2
        have yf2:=z2.free 2
        have y3:=z2.c3
        have yf3:=z2.free 3
        have y4:=z2.c4
        have yf4:=z2.free 4
        clear z2
        refine wp_region_held_drew (S:=fun w'=>w'.cell? ⟨w2.heap.size,0,none⟩ = some (.string (str y))) (by kernel_rfl) x1 (fun hHeld=>?_)
        refine wpAnyH_take (i:=0) (oi:=_) (v:=?vf0t0) rfl (by kernel_rfl) (by kernel_rfl) (by kernel_rfl) (fun _ _ _ h=>h) (Or.inl ⟨by rfl,?yf0t0⟩) (by assumption) ?rf0t0
        case yf0t0=>(intro w hSw;(try dsimp only at hSw);go_simp;try with_reducible rfl)
        try simp only [sxa,sxb,sxc,Act.put,sxd,sxe,sxf]
        refine wpAnyH_take (i:=1) (oi:=_) (v:=?vf0t1) rfl (by kernel_rfl) (by kernel_rfl) (by kernel_rfl) (fun _ _ _ h=>h) (Or.inl ⟨by rfl,?yf0t1⟩) (by assumption) ?rf0t1
        case yf0t1=>(intro w hSw;(try dsimp only at hSw);go_simp;try with_reducible rfl)
        try simp only [sxa,sxb,sxc,Act.put,sxd,sxe,sxf]
        refine wpAnyH_take (i:=2) (oi:=_) (v:=?vf0t2) rfl (by kernel_rfl) (by kernel_rfl) (by kernel_rfl) (fun _ _ _ h=>h) (Or.inl ⟨by rfl,?yf0t2⟩) (by assumption) ?rf0t2
        case yf0t2=>(intro w hSw;(try dsimp only at hSw);go_simp;try with_reducible rfl)
        try simp only [sxa,sxb,sxc,Act.put,sxd,sxe,sxf]
        refine wpAnyH_take (i:=3) (oi:=_) (v:=?vf0t3) rfl (by kernel_rfl) (by kernel_rfl) (by kernel_rfl) (fun _ _ _ h=>h) (Or.inl ⟨by rfl,?yf0t3⟩) (by assumption) ?rf0t3
        case yf0t3=>(intro w hSw;(try dsimp only at hSw);go_simp;try with_reducible rfl)
        try simp only [sxa,sxb,sxc,Act.put,sxd,sxe,sxf]
        refine wpAnyH_take (i:=4) (oi:=_) (v:=?vf0t4) rfl (by kernel_rfl) (by kernel_rfl) (by kernel_rfl) (fun _ _ _ h=>h) (Or.inl ⟨by rfl,?yf0t4⟩) (by assumption) ?rf0t4
        case yf0t4=>(intro w hSw;(try dsimp only at hSw);go_simp;try with_reducible rfl)
        try simp only [sxa,sxb,sxc,Act.put,sxd,sxe,sxf]
        refine wpAnyH_take (i:=5) (oi:=_) (v:=?vf0t5) rfl (by kernel_rfl) (by kernel_rfl) (by kernel_rfl) (fun _ _ _ h=>h) (Or.inl ⟨by rfl,?yf0t5⟩) (by assumption) ?rf0t5
        case yf0t5=>(intro w hSw;(try dsimp only at hSw);go_simp;try with_reducible rfl)
        try simp only [sxa,sxb,sxc,Act.put,sxd,sxe,sxf]
        refine wpAnyH_take (i:=6) (oi:=_) (v:=?vf0t6) rfl (by kernel_rfl) (by kernel_rfl) (by kernel_rfl) (fun _ _ _ h=>h) (Or.inl ⟨by rfl,?yf0t6⟩) (by assumption) ?rf0t6
        case yf0t6=>(intro w hSw;(try dsimp only at hSw);have c_:=hSw;go_simp;try with_reducible rfl)
        try simp only [sxa,sxb,sxc,Act.put,sxd,sxe,sxf]
        refine wpAnyH_take (i:=7) (oi:=_) (v:=?vf0t7) rfl (by kernel_rfl) (by kernel_rfl) (by kernel_rfl) (fun _ _ _ h=>h) (Or.inl ⟨by rfl,?yf0t7⟩) (by assumption) ?rf0t7
        case yf0t7=>(intro w hSw;(try dsimp only at hSw);go_simp;try with_reducible rfl)
        try simp only [sxa,sxb,sxc,Act.put,sxd,sxe,sxf]
        refine wpAnyH_take (i:=8) (oi:=_) (v:=?vf0t8) rfl (by kernel_rfl) (by kernel_rfl) (by kernel_rfl) (fun _ _ _ h=>h) (Or.inl ⟨by rfl,?yf0t8⟩) (by assumption) ?rf0t8
        case yf0t8=>(intro w hSw;(try dsimp only at hSw);go_simp;try with_reducible rfl)
        try simp only [sxa,sxb,sxc,Act.put,sxd,sxe,sxf]
        refine wpAnyH_ready (rs:=[9]) (by kernel_rfl) (by simp) ?_
        refine AllReadyH.cons (o:=_) rfl (fun K hK=>?_) AllReadyH.nil
        go_simp
        refine hK.out _ _ ?hs51 (fun hHeld2=>?_)
        case hs51=>exact cell_drew (cell_far (cell_far (cell_far (cell_far (cell_far x1 hgd _) hgd _) hgd _) hgd _) hgd _)
        clear hK K hHeld
        have hHeld:=hHeld2
        clear hHeld2
        try simp only [sxa,sxb,sxc,Act.put,sxd,sxe,sxf]
        refine wpAnyH_done (by kernel_rfl) ?_ _
        have R3:=hid ((((((R2.out.far hblt (j:=0) (.int .i64 2)).far hblt (j:=1) (.bool true)).far hblt (j:=2) (.string ⟨#[]⟩)).far hblt (j:=3) (.int .i64 1)).far hblt (j:=4) (.slice none 0 0)))
        go_wp2_with fail
        refine bodyPost_ret (v:=.agg #[.int .i64 2,.bool true,.string (str []),.int .i64 1,.slice none 0 0]) (by first | (simp [results,Tryz.results81,go_sem,y0,y1,y2,y3,y4];done) | (simp [results,Tryz.results81,go_sem,y0,y1,y2,y3,y4];rfl)) rfl ?_
        exact ⟨_,{ kind:=2,n:=1,not:=true },t1,bad,rfl,⟨_,rfl,Sq.RBuf.nil (by have:=O2.out.size;simpa [World.setCell] using this)⟩,R3.out.drew,hle,((((((O2.out.setNew hblt (Nat.le_refl _) _).setNew hblt (Nat.le_refl _) _).setNew hblt (Nat.le_refl _) _).setNew hblt (Nat.le_refl _) _).setNew hblt (Nat.le_refl _) _).trans (Only.of (Below.refl _ _).drew (Nat.le_of_lt R3.out.lt))),II.out.out⟩
     · exact absurd (Nat.le_zero.1 hj) hjk
  · clear hq
    go_wp2_with (go_at_call 32;refine (hwd _ R1.out).mono ?_;rintro e w2 ⟨rfl,r2,o2⟩;have a2:=(Below.refl w2.heap.size w2).alloc (Nat.le_refl _) (.cells #[.string ⟨#[83,69,69,78]⟩,.string ⟨#[65,78,83,87,69,82,69,68]⟩,.string ⟨#[70,76,65,71,71,69,68]⟩,.string ⟨#[68,69,76,69,84,69,68]⟩,.string ⟨#[68,82,65,70,84]⟩] 9);have hnl:=names_lit w2;have hgd:w2.heap.size ≠ w.heap.size:=(by have:=o2.size;simp at this;omega);have R2:=hid (r2.below a2);have O2:=hid (O1.out.trans (o2.trans (Only.of a2 (Nat.le_of_lt r2.lt))));have Z2:=hid ((Z1.out.only o2 hdb).below a2);clear r2 o2 a2)
    obtain ⟨W,hW⟩:∃ W,W = w2.alloc (.cells #[.string ⟨#[83,69,69,78]⟩,.string ⟨#[65,78,83,87,69,82,69,68]⟩,.string ⟨#[70,76,65,71,71,69,68]⟩,.string ⟨#[68,69,76,69,84,69,68]⟩,.string ⟨#[68,82,65,70,84]⟩] 9):=⟨_,rfl⟩
    rw [← hW] at hnl R2 O2 Z2
    rw [← hW]
    clear hW
    have HN:=hid hnl
    clear hnl
    go_loop [7] (fun v7=>∃ j:Nat,j ≤ 1∧v7 = .int .i64 j) (fun v7=>5 - (intOf v7).toNat)
    case atStart=>exact ⟨0,Nat.zero_le _,rfl⟩
    case round =>
     obtain ⟨j,hj,rfl⟩:=hrel
     obtain ⟨y,hy⟩:∃ y,namesG[j]? = some y:=⟨_,List.getElem?_eq_getElem (by simp [namesG];omega)⟩
     have hun:=namesG_un y (List.mem_of_getElem? hy)
     have hnw:=names_word HT.out hun
     have x1:=HN.out j y hy
     have hcat:(⟨#[85,78]⟩:ByteArray) ++ str y = str (85 :: 78 :: y):=by rw [show (⟨#[85,78]⟩:ByteArray) = str [85,78] from rfl,str_append];rfl
     have hyl : y.length ≤ 100 := by have h:∀ z ∈ namesG,z.length ≤ 100:=by decide
                                     exact h y (List.mem_of_getElem? hy)
     have i0:(0:Int) ≤ (j:Int):=by omega
     have i1:(j:Int) < 5:=by omega
     by_cases hjk:j = 1
     · subst hjk
       obtain rfl:y = nm:=Option.some.inj (hy.symm.trans ((flag_names nm 1).1 HQ.out))
       clear hy hun
       cases un with
       | false =>
        have e1:(wd == y) = true:=by simpa using hnw.1.2 ⟨rfl,rfl⟩
        have e3:(wd != y) = false:=by simp only [bne,e1];rfl
        have hw1:IntKind.i64.wrap 2 = 2:=by rw [IntKind.wrap_i64];omega
        clear hnw
        go_wp2_with fail
        have z2:=Z2.out
        have y0:=z2.c0
        have yf0:=z2.free 0
        have y1:=z2.c1
        have yf1:=z2.free 1
        have y2:=z2.c2
        have yf2:=z2.free 2
        have y3:=z2.c3
        have yf3:=z2.free 3
        have y4:=z2.c4
        have yf4:=z2.free 4
        clear z2
        refine wp_region_held_drew (S:=fun w'=>w'.cell? ⟨w2.heap.size,1,none⟩ = some (.string (str y))) (by kernel_rfl) x1 (fun hHeld=>?_)
        refine wpAnyH_take (i:=0) (oi:=_) (v:=?vf1f0) rfl (by kernel_rfl) (by kernel_rfl) (by kernel_rfl) (fun _ _ _ h=>h) (Or.inl ⟨by rfl,?yf1f0⟩) (by assumption) ?rf1f0
        case yf1f0=>(intro w hSw;(try dsimp only at hSw);go_simp;try with_reducible rfl)
        try simp only [sxa,sxb,sxc,Act.put,sxd,sxe,sxf]
        refine wpAnyH_take (i:=1) (oi:=_) (v:=?vf1f1) rfl (by kernel_rfl) (by kernel_rfl) (by kernel_rfl) (fun _ _ _ h=>h) (Or.inl ⟨by rfl,?yf1f1⟩) (by assumption) ?rf1f1
        case yf1f1=>(intro w hSw;(try dsimp only at hSw);go_simp;try with_reducible rfl)
        try simp only [sxa,sxb,sxc,Act.put,sxd,sxe,sxf]
        refine wpAnyH_take (i:=2) (oi:=_) (v:=?vf1f2) rfl (by kernel_rfl) (by kernel_rfl) (by kernel_rfl) (fun _ _ _ h=>h) (Or.inl ⟨by rfl,?yf1f2⟩) (by assumption) ?rf1f2
        case yf1f2=>(intro w hSw;(try dsimp only at hSw);go_simp;try with_reducible rfl)
        try simp only [sxa,sxb,sxc,Act.put,sxd,sxe,sxf]
        refine wpAnyH_take (i:=3) (oi:=_) (v:=?vf1f3) rfl (by kernel_rfl) (by kernel_rfl) (by kernel_rfl) (fun _ _ _ h=>h) (Or.inl ⟨by rfl,?yf1f3⟩) (by assumption) ?rf1f3
        case yf1f3=>(intro w hSw;(try dsimp only at hSw);go_simp;try with_reducible rfl)
        try simp only [sxa,sxb,sxc,Act.put,sxd,sxe,sxf]
        refine wpAnyH_take (i:=4) (oi:=_) (v:=?vf1f4) rfl (by kernel_rfl) (by kernel_rfl) (by kernel_rfl) (fun _ _ _ h=>h) (Or.inl ⟨by rfl,?yf1f4⟩) (by assumption) ?rf1f4
        case yf1f4=>(intro w hSw;(try dsimp only at hSw);go_simp;try with_reducible rfl)
        try simp only [sxa,sxb,sxc,Act.put,sxd,sxe,sxf]
        refine wpAnyH_take (i:=5) (oi:=_) (v:=?vf1f5) rfl (by kernel_rfl) (by kernel_rfl) (by kernel_rfl) (fun _ _ _ h=>h) (Or.inl ⟨by rfl,?yf1f5⟩) (by assumption) ?rf1f5
        case yf1f5=>(intro w hSw;(try dsimp only at hSw);go_simp;try with_reducible rfl)
        try simp only [sxa,sxb,sxc,Act.put,sxd,sxe,sxf]
        refine wpAnyH_take (i:=6) (oi:=_) (v:=?vf1f6) rfl (by kernel_rfl) (by kernel_rfl) (by kernel_rfl) (fun _ _ _ h=>h) (Or.inl ⟨by rfl,?yf1f6⟩) (by assumption) ?rf1f6
        case yf1f6=>(intro w hSw;(try dsimp only at hSw);have c_:=hSw;go_simp;try with_reducible rfl)
        try simp only [sxa,sxb,sxc,Act.put,sxd,sxe,sxf]
        refine wpAnyH_take (i:=7) (oi:=_) (v:=?vf1f7) rfl (by kernel_rfl) (by kernel_rfl) (by kernel_rfl) (fun _ _ _ h=>h) (Or.inl ⟨by rfl,?yf1f7⟩) (by assumption) ?rf1f7
        case yf1f7=>(intro w hSw;(try dsimp only at hSw);go_simp;try with_reducible rfl)
        try simp only [sxa,sxb,sxc,Act.put,sxd,sxe,sxf]
        refine wpAnyH_take (i:=8) (oi:=_) (v:=?vf1f8) rfl (by kernel_rfl) (by kernel_rfl) (by kernel_rfl) (fun _ _ _ h=>h) (Or.inl ⟨by rfl,?yf1f8⟩) (by assumption) ?rf1f8
        case yf1f8=>(intro w hSw;(try dsimp only at hSw);go_simp;try with_reducible rfl)
        try simp only [sxa,sxb,sxc,Act.put,sxd,sxe,sxf]
        refine wpAnyH_ready (rs:=[9]) (by kernel_rfl) (by simp) ?_
        refine AllReadyH.cons (o:=_) rfl (fun K hK=>?_) AllReadyH.nil
        go_simp
        refine hK.out _ _ ?hs101 (fun hHeld2=>?_)
        case hs101=>exact cell_drew (cell_far (cell_far (cell_far (cell_far (cell_far x1 hgd _) hgd _) hgd _) hgd _) hgd _)
        clear hK K hHeld
        have hHeld:=hHeld2
        clear hHeld2
        try simp only [sxa,sxb,sxc,Act.put,sxd,sxe,sxf]
        refine wpAnyH_done (by kernel_rfl) ?_ _
        have R3:=hid ((((((R2.out.far hblt (j:=0) (.int .i64 2)).far hblt (j:=1) (.bool false)).far hblt (j:=2) (.string ⟨#[]⟩)).far hblt (j:=3) (.int .i64 2)).far hblt (j:=4) (.slice none 0 0)))
        go_wp2_with fail
        refine bodyPost_ret (v:=.agg #[.int .i64 2,.bool false,.string (str []),.int .i64 2,.slice none 0 0]) (by first | (simp [results,Tryz.results81,go_sem,y0,y1,y2,y3,y4];done) | (simp [results,Tryz.results81,go_sem,y0,y1,y2,y3,y4];rfl)) rfl ?_
        exact ⟨_,{ kind:=2,n:=2,not:=false },t1,bad,rfl,⟨_,rfl,Sq.RBuf.nil (by have:=O2.out.size;simpa [World.setCell] using this)⟩,R3.out.drew,hle,((((((O2.out.setNew hblt (Nat.le_refl _) _).setNew hblt (Nat.le_refl _) _).setNew hblt (Nat.le_refl _) _).setNew hblt (Nat.le_refl _) _).setNew hblt (Nat.le_refl _) _).trans (Only.of (Below.refl _ _).drew (Nat.le_of_lt R3.out.lt))),II.out.out⟩
       | true =>
        have e1:(wd == y) = false:=beq_eq_false_iff_ne.2 fun h=>absurd (hnw.1.1 h).1 (by simp)
        have e2:(wd == 85 :: 78 :: y) = true:=by simpa using hnw.2.2 ⟨rfl,rfl⟩
        have e3:(wd != y) = true:=by simp only [bne,e1];rfl
        have hw1:IntKind.i64.wrap 2 = 2:=by rw [IntKind.wrap_i64];omega
        clear hnw
        go_wp2_with fail
        have z2:=Z2.out
        have y0:=z2.c0
        have yf0:=z2.free 0
        have y1:=z2.c1
        have yf1:=z2.free 1
        have y2:=z2.c2
        have yf2:=z2.free 2
        have y3:=z2.c3
        have yf3:=z2.free 3
        have y4:=z2.c4
        have yf4:=z2.free 4
        clear z2
        refine wp_region_held_drew (S:=fun w'=>w'.cell? ⟨w2.heap.size,1,none⟩ = some (.string (str y))) (by kernel_rfl) x1 (fun hHeld=>?_)
        refine wpAnyH_take (i:=0) (oi:=_) (v:=?vf1t0) rfl (by kernel_rfl) (by kernel_rfl) (by kernel_rfl) (fun _ _ _ h=>h) (Or.inl ⟨by rfl,?yf1t0⟩) (by assumption) ?rf1t0
        case yf1t0=>(intro w hSw;(try dsimp only at hSw);go_simp;try with_reducible rfl)
        try simp only [sxa,sxb,sxc,Act.put,sxd,sxe,sxf]
        refine wpAnyH_take (i:=1) (oi:=_) (v:=?vf1t1) rfl (by kernel_rfl) (by kernel_rfl) (by kernel_rfl) (fun _ _ _ h=>h) (Or.inl ⟨by rfl,?yf1t1⟩) (by assumption) ?rf1t1
        case yf1t1=>(intro w hSw;(try dsimp only at hSw);go_simp;try with_reducible rfl)
        try simp only [sxa,sxb,sxc,Act.put,sxd,sxe,sxf]
        refine wpAnyH_take (i:=2) (oi:=_) (v:=?vf1t2) rfl (by kernel_rfl) (by kernel_rfl) (by kernel_rfl) (fun _ _ _ h=>h) (Or.inl ⟨by rfl,?yf1t2⟩) (by assumption) ?rf1t2
        case yf1t2=>(intro w hSw;(try dsimp only at hSw);go_simp;try with_reducible rfl)
        try simp only [sxa,sxb,sxc,Act.put,sxd,sxe,sxf]
        refine wpAnyH_take (i:=3) (oi:=_) (v:=?vf1t3) rfl (by kernel_rfl) (by kernel_rfl) (by kernel_rfl) (fun _ _ _ h=>h) (Or.inl ⟨by rfl,?yf1t3⟩) (by assumption) ?rf1t3
        case yf1t3=>(intro w hSw;(try dsimp only at hSw);go_simp;try with_reducible rfl)
        try simp only [sxa,sxb,sxc,Act.put,sxd,sxe,sxf]
        refine wpAnyH_take (i:=4) (oi:=_) (v:=?vf1t4) rfl (by kernel_rfl) (by kernel_rfl) (by kernel_rfl) (fun _ _ _ h=>h) (Or.inl ⟨by rfl,?yf1t4⟩) (by assumption) ?rf1t4
        case yf1t4=>(intro w hSw;(try dsimp only at hSw);go_simp;try with_reducible rfl)
        try simp only [sxa,sxb,sxc,Act.put,sxd,sxe,sxf]
        refine wpAnyH_take (i:=5) (oi:=_) (v:=?vf1t5) rfl (by kernel_rfl) (by kernel_rfl) (by kernel_rfl) (fun _ _ _ h=>h) (Or.inl ⟨by rfl,?yf1t5⟩) (by assumption) ?rf1t5
        case yf1t5=>(intro w hSw;(try dsimp only at hSw);go_simp;try with_reducible rfl)
        try simp only [sxa,sxb,sxc,Act.put,sxd,sxe,sxf]
        refine wpAnyH_take (i:=6) (oi:=_) (v:=?vf1t6) rfl (by kernel_rfl) (by kernel_rfl) (by kernel_rfl) (fun _ _ _ h=>h) (Or.inl ⟨by rfl,?yf1t6⟩) (by assumption) ?rf1t6
        case yf1t6=>(intro w hSw;(try dsimp only at hSw);have c_:=hSw;go_simp;try with_reducible rfl)
        try simp only [sxa,sxb,sxc,Act.put,sxd,sxe,sxf]
        refine wpAnyH_take (i:=7) (oi:=_) (v:=?vf1t7) rfl (by kernel_rfl) (by kernel_rfl) (by kernel_rfl) (fun _ _ _ h=>h) (Or.inl ⟨by rfl,?yf1t7⟩) (by assumption) ?rf1t7
        case yf1t7=>(intro w hSw;(try dsimp only at hSw);go_simp;try with_reducible rfl)
        try simp only [sxa,sxb,sxc,Act.put,sxd,sxe,sxf]
        refine wpAnyH_take (i:=8) (oi:=_) (v:=?vf1t8) rfl (by kernel_rfl) (by kernel_rfl) (by kernel_rfl) (fun _ _ _ h=>h) (Or.inl ⟨by rfl,?yf1t8⟩) (by assumption) ?rf1t8
        case yf1t8=>(intro w hSw;(try dsimp only at hSw);go_simp;try with_reducible rfl)
        try simp only [sxa,sxb,sxc,Act.put,sxd,sxe,sxf]
        refine wpAnyH_ready (rs:=[9]) (by kernel_rfl) (by simp) ?_
        refine AllReadyH.cons (o:=_) rfl (fun K hK=>?_) AllReadyH.nil
        go_simp
        refine hK.out _ _ ?hs151 (fun hHeld2=>?_)
        case hs151=>exact cell_drew (cell_far (cell_far (cell_far (cell_far (cell_far x1 hgd _) hgd _) hgd _) hgd _) hgd _)
        clear hK K hHeld
        have hHeld:=hHeld2
        clear hHeld2
        try simp only [sxa,sxb,sxc,Act.put,sxd,sxe,sxf]
        refine wpAnyH_done (by kernel_rfl) ?_ _
        have R3:=hid ((((((R2.out.far hblt (j:=0) (.int .i64 2)).far hblt (j:=1) (.bool true)).far hblt (j:=2) (.string ⟨#[]⟩)).far hblt (j:=3) (.int .i64 2)).far hblt (j:=4) (.slice none 0 0)))
        go_wp2_with fail
        refine bodyPost_ret (v:=.agg #[.int .i64 2,.bool true,.string (str []),.int .i64 2,.slice none 0 0]) (by first | (simp [results,Tryz.results81,go_sem,y0,y1,y2,y3,y4];done) | (simp [results,Tryz.results81,go_sem,y0,y1,y2,y3,y4];rfl)) rfl ?_
        exact ⟨_,{ kind:=2,n:=2,not:=true },t1,bad,rfl,⟨_,rfl,Sq.RBuf.nil (by have:=O2.out.size;simpa [World.setCell] using this)⟩,R3.out.drew,hle,((((((O2.out.setNew hblt (Nat.le_refl _) _).setNew hblt (Nat.le_refl _) _).setNew hblt (Nat.le_refl _) _).setNew hblt (Nat.le_refl _) _).setNew hblt (Nat.le_refl _) _).trans (Only.of (Below.refl _ _).drew (Nat.le_of_lt R3.out.lt))),II.out.out⟩
     · have hne:nm ≠ y:=fun e=>by
         have h2:=(flag_names nm j).2 (by rw [e];exact hy)
         rw [HQ.out] at h2
         injection h2 with h2
         omega
       have e1:(wd == y) = false:=beq_eq_false_iff_ne.2 fun h=>hne (hnw.1.1 h).2
       have e2:(wd == 85 :: 78 :: y) = false:=beq_eq_false_iff_ne.2 fun h=>hne (hnw.2.1 h).2
       clear hne
       clear hnw hy hun
       go_wp2_with fail
       go_round
       case rel=>exact ⟨j + 1,by omega,by go_num⟩
       case measure=>simp [intOf];omega
  · clear hq
    go_wp2_with (go_at_call 32;refine (hwd _ R1.out).mono ?_;rintro e w2 ⟨rfl,r2,o2⟩;have a2:=(Below.refl w2.heap.size w2).alloc (Nat.le_refl _) (.cells #[.string ⟨#[83,69,69,78]⟩,.string ⟨#[65,78,83,87,69,82,69,68]⟩,.string ⟨#[70,76,65,71,71,69,68]⟩,.string ⟨#[68,69,76,69,84,69,68]⟩,.string ⟨#[68,82,65,70,84]⟩] 9);have hnl:=names_lit w2;have hgd:w2.heap.size ≠ w.heap.size:=(by have:=o2.size;simp at this;omega);have R2:=hid (r2.below a2);have O2:=hid (O1.out.trans (o2.trans (Only.of a2 (Nat.le_of_lt r2.lt))));have Z2:=hid ((Z1.out.only o2 hdb).below a2);clear r2 o2 a2)
    obtain ⟨W,hW⟩:∃ W,W = w2.alloc (.cells #[.string ⟨#[83,69,69,78]⟩,.string ⟨#[65,78,83,87,69,82,69,68]⟩,.string ⟨#[70,76,65,71,71,69,68]⟩,.string ⟨#[68,69,76,69,84,69,68]⟩,.string ⟨#[68,82,65,70,84]⟩] 9):=⟨_,rfl⟩
    rw [← hW] at hnl R2 O2 Z2
    rw [← hW]
    clear hW
    have HN:=hid hnl
    clear hnl
    go_loop [7] (fun v7=>∃ j:Nat,j ≤ 2∧v7 = .int .i64 j) (fun v7=>5 - (intOf v7).toNat)
    case atStart=>exact ⟨0,Nat.zero_le _,rfl⟩
    case round =>
     obtain ⟨j,hj,rfl⟩:=hrel
     obtain ⟨y,hy⟩:∃ y,namesG[j]? = some y:=⟨_,List.getElem?_eq_getElem (by simp [namesG];omega)⟩
     have hun:=namesG_un y (List.mem_of_getElem? hy)
     have hnw:=names_word HT.out hun
     have x1:=HN.out j y hy
     have hcat:(⟨#[85,78]⟩:ByteArray) ++ str y = str (85 :: 78 :: y):=by rw [show (⟨#[85,78]⟩:ByteArray) = str [85,78] from rfl,str_append];rfl
     have hyl : y.length ≤ 100 := by have h:∀ z ∈ namesG,z.length ≤ 100:=by decide
                                     exact h y (List.mem_of_getElem? hy)
     have i0:(0:Int) ≤ (j:Int):=by omega
     have i1:(j:Int) < 5:=by omega
     by_cases hjk:j = 2
     · subst hjk
       obtain rfl:y = nm:=Option.some.inj (hy.symm.trans ((flag_names nm 2).1 HQ.out))
       clear hy hun
       cases un with
       | false =>
        have e1:(wd == y) = true:=by simpa using hnw.1.2 ⟨rfl,rfl⟩
        have e3:(wd != y) = false:=by simp only [bne,e1];rfl
        have hw1:IntKind.i64.wrap 4 = 4:=by rw [IntKind.wrap_i64];omega
        clear hnw
        go_wp2_with fail
        have z2:=Z2.out
        have y0:=z2.c0
        have yf0:=z2.free 0
        have y1:=z2.c1
        have yf1:=z2.free 1
        have y2:=z2.c2
        have yf2:=z2.free 2
        have y3:=z2.c3
        have yf3:=z2.free 3
        have y4:=z2.c4
        have yf4:=z2.free 4
        clear z2
        refine wp_region_held_drew (S:=fun w'=>w'.cell? ⟨w2.heap.size,2,none⟩ = some (.string (str y))) (by kernel_rfl) x1 (fun hHeld=>?_)
        refine wpAnyH_take (i:=0) (oi:=_) (v:=?vf2f0) rfl (by kernel_rfl) (by kernel_rfl) (by kernel_rfl) (fun _ _ _ h=>h) (Or.inl ⟨by rfl,?yf2f0⟩) (by assumption) ?rf2f0
        case yf2f0=>(intro w hSw;(try dsimp only at hSw);go_simp;try with_reducible rfl)
        try simp only [sxa,sxb,sxc,Act.put,sxd,sxe,sxf]
        refine wpAnyH_take (i:=1) (oi:=_) (v:=?vf2f1) rfl (by kernel_rfl) (by kernel_rfl) (by kernel_rfl) (fun _ _ _ h=>h) (Or.inl ⟨by rfl,?yf2f1⟩) (by assumption) ?rf2f1
        case yf2f1=>(intro w hSw;(try dsimp only at hSw);go_simp;try with_reducible rfl)
        try simp only [sxa,sxb,sxc,Act.put,sxd,sxe,sxf]
        refine wpAnyH_take (i:=2) (oi:=_) (v:=?vf2f2) rfl (by kernel_rfl) (by kernel_rfl) (by kernel_rfl) (fun _ _ _ h=>h) (Or.inl ⟨by rfl,?yf2f2⟩) (by assumption) ?rf2f2
        case yf2f2=>(intro w hSw;(try dsimp only at hSw);go_simp;try with_reducible rfl)
        try simp only [sxa,sxb,sxc,Act.put,sxd,sxe,sxf]
        refine wpAnyH_take (i:=3) (oi:=_) (v:=?vf2f3) rfl (by kernel_rfl) (by kernel_rfl) (by kernel_rfl) (fun _ _ _ h=>h) (Or.inl ⟨by rfl,?yf2f3⟩) (by assumption) ?rf2f3
        case yf2f3=>(intro w hSw;(try dsimp only at hSw);go_simp;try with_reducible rfl)
        try simp only [sxa,sxb,sxc,Act.put,sxd,sxe,sxf]
        refine wpAnyH_take (i:=4) (oi:=_) (v:=?vf2f4) rfl (by kernel_rfl) (by kernel_rfl) (by kernel_rfl) (fun _ _ _ h=>h) (Or.inl ⟨by rfl,?yf2f4⟩) (by assumption) ?rf2f4
        case yf2f4=>(intro w hSw;(try dsimp only at hSw);go_simp;try with_reducible rfl)
        try simp only [sxa,sxb,sxc,Act.put,sxd,sxe,sxf]
        refine wpAnyH_take (i:=5) (oi:=_) (v:=?vf2f5) rfl (by kernel_rfl) (by kernel_rfl) (by kernel_rfl) (fun _ _ _ h=>h) (Or.inl ⟨by rfl,?yf2f5⟩) (by assumption) ?rf2f5
        case yf2f5=>(intro w hSw;(try dsimp only at hSw);go_simp;try with_reducible rfl)
        try simp only [sxa,sxb,sxc,Act.put,sxd,sxe,sxf]
        refine wpAnyH_take (i:=6) (oi:=_) (v:=?vf2f6) rfl (by kernel_rfl) (by kernel_rfl) (by kernel_rfl) (fun _ _ _ h=>h) (Or.inl ⟨by rfl,?yf2f6⟩) (by assumption) ?rf2f6
        case yf2f6=>(intro w hSw;(try dsimp only at hSw);have c_:=hSw;go_simp;try with_reducible rfl)
        try simp only [sxa,sxb,sxc,Act.put,sxd,sxe,sxf]
        refine wpAnyH_take (i:=7) (oi:=_) (v:=?vf2f7) rfl (by kernel_rfl) (by kernel_rfl) (by kernel_rfl) (fun _ _ _ h=>h) (Or.inl ⟨by rfl,?yf2f7⟩) (by assumption) ?rf2f7
        case yf2f7=>(intro w hSw;(try dsimp only at hSw);go_simp;try with_reducible rfl)
        try simp only [sxa,sxb,sxc,Act.put,sxd,sxe,sxf]
        refine wpAnyH_take (i:=8) (oi:=_) (v:=?vf2f8) rfl (by kernel_rfl) (by kernel_rfl) (by kernel_rfl) (fun _ _ _ h=>h) (Or.inl ⟨by rfl,?yf2f8⟩) (by assumption) ?rf2f8
        case yf2f8=>(intro w hSw;(try dsimp only at hSw);go_simp;try with_reducible rfl)
        try simp only [sxa,sxb,sxc,Act.put,sxd,sxe,sxf]
        refine wpAnyH_ready (rs:=[9]) (by kernel_rfl) (by simp) ?_
        refine AllReadyH.cons (o:=_) rfl (fun K hK=>?_) AllReadyH.nil
        go_simp
        refine hK.out _ _ ?hs201 (fun hHeld2=>?_)
        case hs201=>exact cell_drew (cell_far (cell_far (cell_far (cell_far (cell_far x1 hgd _) hgd _) hgd _) hgd _) hgd _)
        clear hK K hHeld
        have hHeld:=hHeld2
        clear hHeld2
        try simp only [sxa,sxb,sxc,Act.put,sxd,sxe,sxf]
        refine wpAnyH_done (by kernel_rfl) ?_ _
        have R3:=hid ((((((R2.out.far hblt (j:=0) (.int .i64 2)).far hblt (j:=1) (.bool false)).far hblt (j:=2) (.string ⟨#[]⟩)).far hblt (j:=3) (.int .i64 4)).far hblt (j:=4) (.slice none 0 0)))
        go_wp2_with fail
        refine bodyPost_ret (v:=.agg #[.int .i64 2,.bool false,.string (str []),.int .i64 4,.slice none 0 0]) (by first | (simp [results,Tryz.results81,go_sem,y0,y1,y2,y3,y4];done) | (simp [results,Tryz.results81,go_sem,y0,y1,y2,y3,y4];rfl)) rfl ?_
        exact ⟨_,{ kind:=2,n:=4,not:=false },t1,bad,rfl,⟨_,rfl,Sq.RBuf.nil (by have:=O2.out.size;simpa [World.setCell] using this)⟩,R3.out.drew,hle,((((((O2.out.setNew hblt (Nat.le_refl _) _).setNew hblt (Nat.le_refl _) _).setNew hblt (Nat.le_refl _) _).setNew hblt (Nat.le_refl _) _).setNew hblt (Nat.le_refl _) _).trans (Only.of (Below.refl _ _).drew (Nat.le_of_lt R3.out.lt))),II.out.out⟩
       | true =>
        have e1:(wd == y) = false:=beq_eq_false_iff_ne.2 fun h=>absurd (hnw.1.1 h).1 (by simp)
        have e2:(wd == 85 :: 78 :: y) = true:=by simpa using hnw.2.2 ⟨rfl,rfl⟩
        have e3:(wd != y) = true:=by simp only [bne,e1];rfl
        have hw1:IntKind.i64.wrap 4 = 4:=by rw [IntKind.wrap_i64];omega
        clear hnw
        go_wp2_with fail
        have z2:=Z2.out
        have y0:=z2.c0
        have yf0:=z2.free 0
        have y1:=z2.c1
        have yf1:=z2.free 1
        have y2:=z2.c2
        have yf2:=z2.free 2
        have y3:=z2.c3
        have yf3:=z2.free 3
        have y4:=z2.c4
        have yf4:=z2.free 4
        clear z2
        refine wp_region_held_drew (S:=fun w'=>w'.cell? ⟨w2.heap.size,2,none⟩ = some (.string (str y))) (by kernel_rfl) x1 (fun hHeld=>?_)
        refine wpAnyH_take (i:=0) (oi:=_) (v:=?vf2t0) rfl (by kernel_rfl) (by kernel_rfl) (by kernel_rfl) (fun _ _ _ h=>h) (Or.inl ⟨by rfl,?yf2t0⟩) (by assumption) ?rf2t0
        case yf2t0=>(intro w hSw;(try dsimp only at hSw);go_simp;try with_reducible rfl)
        try simp only [sxa,sxb,sxc,Act.put,sxd,sxe,sxf]
        refine wpAnyH_take (i:=1) (oi:=_) (v:=?vf2t1) rfl (by kernel_rfl) (by kernel_rfl) (by kernel_rfl) (fun _ _ _ h=>h) (Or.inl ⟨by rfl,?yf2t1⟩) (by assumption) ?rf2t1
        case yf2t1=>(intro w hSw;(try dsimp only at hSw);go_simp;try with_reducible rfl)
        try simp only [sxa,sxb,sxc,Act.put,sxd,sxe,sxf]
        refine wpAnyH_take (i:=2) (oi:=_) (v:=?vf2t2) rfl (by kernel_rfl) (by kernel_rfl) (by kernel_rfl) (fun _ _ _ h=>h) (Or.inl ⟨by rfl,?yf2t2⟩) (by assumption) ?rf2t2
        case yf2t2=>(intro w hSw;(try dsimp only at hSw);go_simp;try with_reducible rfl)
        try simp only [sxa,sxb,sxc,Act.put,sxd,sxe,sxf]
        refine wpAnyH_take (i:=3) (oi:=_) (v:=?vf2t3) rfl (by kernel_rfl) (by kernel_rfl) (by kernel_rfl) (fun _ _ _ h=>h) (Or.inl ⟨by rfl,?yf2t3⟩) (by assumption) ?rf2t3
        case yf2t3=>(intro w hSw;(try dsimp only at hSw);go_simp;try with_reducible rfl)
        try simp only [sxa,sxb,sxc,Act.put,sxd,sxe,sxf]
        refine wpAnyH_take (i:=4) (oi:=_) (v:=?vf2t4) rfl (by kernel_rfl) (by kernel_rfl) (by kernel_rfl) (fun _ _ _ h=>h) (Or.inl ⟨by rfl,?yf2t4⟩) (by assumption) ?rf2t4
        case yf2t4=>(intro w hSw;(try dsimp only at hSw);go_simp;try with_reducible rfl)
        try simp only [sxa,sxb,sxc,Act.put,sxd,sxe,sxf]
        refine wpAnyH_take (i:=5) (oi:=_) (v:=?vf2t5) rfl (by kernel_rfl) (by kernel_rfl) (by kernel_rfl) (fun _ _ _ h=>h) (Or.inl ⟨by rfl,?yf2t5⟩) (by assumption) ?rf2t5
        case yf2t5=>(intro w hSw;(try dsimp only at hSw);go_simp;try with_reducible rfl)
        try simp only [sxa,sxb,sxc,Act.put,sxd,sxe,sxf]
        refine wpAnyH_take (i:=6) (oi:=_) (v:=?vf2t6) rfl (by kernel_rfl) (by kernel_rfl) (by kernel_rfl) (fun _ _ _ h=>h) (Or.inl ⟨by rfl,?yf2t6⟩) (by assumption) ?rf2t6
        case yf2t6=>(intro w hSw;(try dsimp only at hSw);have c_:=hSw;go_simp;try with_reducible rfl)
        try simp only [sxa,sxb,sxc,Act.put,sxd,sxe,sxf]
        refine wpAnyH_take (i:=7) (oi:=_) (v:=?vf2t7) rfl (by kernel_rfl) (by kernel_rfl) (by kernel_rfl) (fun _ _ _ h=>h) (Or.inl ⟨by rfl,?yf2t7⟩) (by assumption) ?rf2t7
        case yf2t7=>(intro w hSw;(try dsimp only at hSw);go_simp;try with_reducible rfl)
        try simp only [sxa,sxb,sxc,Act.put,sxd,sxe,sxf]
        refine wpAnyH_take (i:=8) (oi:=_) (v:=?vf2t8) rfl (by kernel_rfl) (by kernel_rfl) (by kernel_rfl) (fun _ _ _ h=>h) (Or.inl ⟨by rfl,?yf2t8⟩) (by assumption) ?rf2t8
        case yf2t8=>(intro w hSw;(try dsimp only at hSw);go_simp;try with_reducible rfl)
        try simp only [sxa,sxb,sxc,Act.put,sxd,sxe,sxf]
        refine wpAnyH_ready (rs:=[9]) (by kernel_rfl) (by simp) ?_
        refine AllReadyH.cons (o:=_) rfl (fun K hK=>?_) AllReadyH.nil
        go_simp
        refine hK.out _ _ ?hs251 (fun hHeld2=>?_)
        case hs251=>exact cell_drew (cell_far (cell_far (cell_far (cell_far (cell_far x1 hgd _) hgd _) hgd _) hgd _) hgd _)
        clear hK K hHeld
        have hHeld:=hHeld2
        clear hHeld2
        try simp only [sxa,sxb,sxc,Act.put,sxd,sxe,sxf]
        refine wpAnyH_done (by kernel_rfl) ?_ _
        have R3:=hid ((((((R2.out.far hblt (j:=0) (.int .i64 2)).far hblt (j:=1) (.bool true)).far hblt (j:=2) (.string ⟨#[]⟩)).far hblt (j:=3) (.int .i64 4)).far hblt (j:=4) (.slice none 0 0)))
        go_wp2_with fail
        refine bodyPost_ret (v:=.agg #[.int .i64 2,.bool true,.string (str []),.int .i64 4,.slice none 0 0]) (by first | (simp [results,Tryz.results81,go_sem,y0,y1,y2,y3,y4];done) | (simp [results,Tryz.results81,go_sem,y0,y1,y2,y3,y4];rfl)) rfl ?_
        exact ⟨_,{ kind:=2,n:=4,not:=true },t1,bad,rfl,⟨_,rfl,Sq.RBuf.nil (by have:=O2.out.size;simpa [World.setCell] using this)⟩,R3.out.drew,hle,((((((O2.out.setNew hblt (Nat.le_refl _) _).setNew hblt (Nat.le_refl _) _).setNew hblt (Nat.le_refl _) _).setNew hblt (Nat.le_refl _) _).setNew hblt (Nat.le_refl _) _).trans (Only.of (Below.refl _ _).drew (Nat.le_of_lt R3.out.lt))),II.out.out⟩
     · have hne:nm ≠ y:=fun e=>by
         have h2:=(flag_names nm j).2 (by rw [e];exact hy)
         rw [HQ.out] at h2
         injection h2 with h2
         omega
       have e1:(wd == y) = false:=beq_eq_false_iff_ne.2 fun h=>hne (hnw.1.1 h).2
       have e2:(wd == 85 :: 78 :: y) = false:=beq_eq_false_iff_ne.2 fun h=>hne (hnw.2.1 h).2
       clear hne
       clear hnw hy hun
       go_wp2_with fail
       go_round
       case rel=>exact ⟨j + 1,by omega,by go_num⟩
       case measure=>simp [intOf];omega
  · clear hq
    go_wp2_with (go_at_call 32;refine (hwd _ R1.out).mono ?_;rintro e w2 ⟨rfl,r2,o2⟩;have a2:=(Below.refl w2.heap.size w2).alloc (Nat.le_refl _) (.cells #[.string ⟨#[83,69,69,78]⟩,.string ⟨#[65,78,83,87,69,82,69,68]⟩,.string ⟨#[70,76,65,71,71,69,68]⟩,.string ⟨#[68,69,76,69,84,69,68]⟩,.string ⟨#[68,82,65,70,84]⟩] 9);have hnl:=names_lit w2;have hgd:w2.heap.size ≠ w.heap.size:=(by have:=o2.size;simp at this;omega);have R2:=hid (r2.below a2);have O2:=hid (O1.out.trans (o2.trans (Only.of a2 (Nat.le_of_lt r2.lt))));have Z2:=hid ((Z1.out.only o2 hdb).below a2);clear r2 o2 a2)
    obtain ⟨W,hW⟩:∃ W,W = w2.alloc (.cells #[.string ⟨#[83,69,69,78]⟩,.string ⟨#[65,78,83,87,69,82,69,68]⟩,.string ⟨#[70,76,65,71,71,69,68]⟩,.string ⟨#[68,69,76,69,84,69,68]⟩,.string ⟨#[68,82,65,70,84]⟩] 9):=⟨_,rfl⟩
    rw [← hW] at hnl R2 O2 Z2
    rw [← hW]
    clear hW
    have HN:=hid hnl
    clear hnl
    go_loop [7] (fun v7=>∃ j:Nat,j ≤ 3∧v7 = .int .i64 j) (fun v7=>5 - (intOf v7).toNat)
    case atStart=>exact ⟨0,Nat.zero_le _,rfl⟩
    case round =>
     obtain ⟨j,hj,rfl⟩:=hrel
     obtain ⟨y,hy⟩:∃ y,namesG[j]? = some y:=⟨_,List.getElem?_eq_getElem (by simp [namesG];omega)⟩
     have hun:=namesG_un y (List.mem_of_getElem? hy)
     have hnw:=names_word HT.out hun
     have x1:=HN.out j y hy
     have hcat:(⟨#[85,78]⟩:ByteArray) ++ str y = str (85 :: 78 :: y):=by rw [show (⟨#[85,78]⟩:ByteArray) = str [85,78] from rfl,str_append];rfl
     have hyl : y.length ≤ 100 := by have h:∀ z ∈ namesG,z.length ≤ 100:=by decide
                                     exact h y (List.mem_of_getElem? hy)
     have i0:(0:Int) ≤ (j:Int):=by omega
     have i1:(j:Int) < 5:=by omega
     by_cases hjk:j = 3
     · subst hjk
       obtain rfl:y = nm:=Option.some.inj (hy.symm.trans ((flag_names nm 3).1 HQ.out))
       clear hy hun
       cases un with
       | false =>
        have e1:(wd == y) = true:=by simpa using hnw.1.2 ⟨rfl,rfl⟩
        have e3:(wd != y) = false:=by simp only [bne,e1];rfl
        have hw1:IntKind.i64.wrap 8 = 8:=by rw [IntKind.wrap_i64];omega
        clear hnw
        go_wp2_with fail
        have z2:=Z2.out
        have y0:=z2.c0
        have yf0:=z2.free 0
        have y1:=z2.c1
        have yf1:=z2.free 1
        have y2:=z2.c2
        have yf2:=z2.free 2
        have y3:=z2.c3
        have yf3:=z2.free 3
        have y4:=z2.c4
        have yf4:=z2.free 4
        clear z2
        refine wp_region_held_drew (S:=fun w'=>w'.cell? ⟨w2.heap.size,3,none⟩ = some (.string (str y))) (by kernel_rfl) x1 (fun hHeld=>?_)
        refine wpAnyH_take (i:=0) (oi:=_) (v:=?vf3f0) rfl (by kernel_rfl) (by kernel_rfl) (by kernel_rfl) (fun _ _ _ h=>h) (Or.inl ⟨by rfl,?yf3f0⟩) (by assumption) ?rf3f0
        case yf3f0=>(intro w hSw;(try dsimp only at hSw);go_simp;try with_reducible rfl)
        try simp only [sxa,sxb,sxc,Act.put,sxd,sxe,sxf]
        refine wpAnyH_take (i:=1) (oi:=_) (v:=?vf3f1) rfl (by kernel_rfl) (by kernel_rfl) (by kernel_rfl) (fun _ _ _ h=>h) (Or.inl ⟨by rfl,?yf3f1⟩) (by assumption) ?rf3f1
        case yf3f1=>(intro w hSw;(try dsimp only at hSw);go_simp;try with_reducible rfl)
        try simp only [sxa,sxb,sxc,Act.put,sxd,sxe,sxf]
        refine wpAnyH_take (i:=2) (oi:=_) (v:=?vf3f2) rfl (by kernel_rfl) (by kernel_rfl) (by kernel_rfl) (fun _ _ _ h=>h) (Or.inl ⟨by rfl,?yf3f2⟩) (by assumption) ?rf3f2
        case yf3f2=>(intro w hSw;(try dsimp only at hSw);go_simp;try with_reducible rfl)
        try simp only [sxa,sxb,sxc,Act.put,sxd,sxe,sxf]
        refine wpAnyH_take (i:=3) (oi:=_) (v:=?vf3f3) rfl (by kernel_rfl) (by kernel_rfl) (by kernel_rfl) (fun _ _ _ h=>h) (Or.inl ⟨by rfl,?yf3f3⟩) (by assumption) ?rf3f3
        case yf3f3=>(intro w hSw;(try dsimp only at hSw);go_simp;try with_reducible rfl)
        try simp only [sxa,sxb,sxc,Act.put,sxd,sxe,sxf]
        refine wpAnyH_take (i:=4) (oi:=_) (v:=?vf3f4) rfl (by kernel_rfl) (by kernel_rfl) (by kernel_rfl) (fun _ _ _ h=>h) (Or.inl ⟨by rfl,?yf3f4⟩) (by assumption) ?rf3f4
        case yf3f4=>(intro w hSw;(try dsimp only at hSw);go_simp;try with_reducible rfl)
        try simp only [sxa,sxb,sxc,Act.put,sxd,sxe,sxf]
        refine wpAnyH_take (i:=5) (oi:=_) (v:=?vf3f5) rfl (by kernel_rfl) (by kernel_rfl) (by kernel_rfl) (fun _ _ _ h=>h) (Or.inl ⟨by rfl,?yf3f5⟩) (by assumption) ?rf3f5
        case yf3f5=>(intro w hSw;(try dsimp only at hSw);go_simp;try with_reducible rfl)
        try simp only [sxa,sxb,sxc,Act.put,sxd,sxe,sxf]
        refine wpAnyH_take (i:=6) (oi:=_) (v:=?vf3f6) rfl (by kernel_rfl) (by kernel_rfl) (by kernel_rfl) (fun _ _ _ h=>h) (Or.inl ⟨by rfl,?yf3f6⟩) (by assumption) ?rf3f6
        case yf3f6=>(intro w hSw;(try dsimp only at hSw);have c_:=hSw;go_simp;try with_reducible rfl)
        try simp only [sxa,sxb,sxc,Act.put,sxd,sxe,sxf]
        refine wpAnyH_take (i:=7) (oi:=_) (v:=?vf3f7) rfl (by kernel_rfl) (by kernel_rfl) (by kernel_rfl) (fun _ _ _ h=>h) (Or.inl ⟨by rfl,?yf3f7⟩) (by assumption) ?rf3f7
        case yf3f7=>(intro w hSw;(try dsimp only at hSw);go_simp;try with_reducible rfl)
        try simp only [sxa,sxb,sxc,Act.put,sxd,sxe,sxf]
        refine wpAnyH_take (i:=8) (oi:=_) (v:=?vf3f8) rfl (by kernel_rfl) (by kernel_rfl) (by kernel_rfl) (fun _ _ _ h=>h) (Or.inl ⟨by rfl,?yf3f8⟩) (by assumption) ?rf3f8
        case yf3f8=>(intro w hSw;(try dsimp only at hSw);go_simp;try with_reducible rfl)
        try simp only [sxa,sxb,sxc,Act.put,sxd,sxe,sxf]
        refine wpAnyH_ready (rs:=[9]) (by kernel_rfl) (by simp) ?_
        refine AllReadyH.cons (o:=_) rfl (fun K hK=>?_) AllReadyH.nil
        go_simp
        refine hK.out _ _ ?hs301 (fun hHeld2=>?_)
        case hs301=>exact cell_drew (cell_far (cell_far (cell_far (cell_far (cell_far x1 hgd _) hgd _) hgd _) hgd _) hgd _)
        clear hK K hHeld
        have hHeld:=hHeld2
        clear hHeld2
        try simp only [sxa,sxb,sxc,Act.put,sxd,sxe,sxf]
        refine wpAnyH_done (by kernel_rfl) ?_ _
        have R3:=hid ((((((R2.out.far hblt (j:=0) (.int .i64 2)).far hblt (j:=1) (.bool false)).far hblt (j:=2) (.string ⟨#[]⟩)).far hblt (j:=3) (.int .i64 8)).far hblt (j:=4) (.slice none 0 0)))
        go_wp2_with fail
        refine bodyPost_ret (v:=.agg #[.int .i64 2,.bool false,.string (str []),.int .i64 8,.slice none 0 0]) (by first | (simp [results,Tryz.results81,go_sem,y0,y1,y2,y3,y4];done) | (simp [results,Tryz.results81,go_sem,y0,y1,y2,y3,y4];rfl)) rfl ?_
        exact ⟨_,{ kind:=2,n:=8,not:=false },t1,bad,rfl,⟨_,rfl,Sq.RBuf.nil (by have:=O2.out.size;simpa [World.setCell] using this)⟩,R3.out.drew,hle,((((((O2.out.setNew hblt (Nat.le_refl _) _).setNew hblt (Nat.le_refl _) _).setNew hblt (Nat.le_refl _) _).setNew hblt (Nat.le_refl _) _).setNew hblt (Nat.le_refl _) _).trans (Only.of (Below.refl _ _).drew (Nat.le_of_lt R3.out.lt))),II.out.out⟩
       | true =>
        have e1:(wd == y) = false:=beq_eq_false_iff_ne.2 fun h=>absurd (hnw.1.1 h).1 (by simp)
        have e2:(wd == 85 :: 78 :: y) = true:=by simpa using hnw.2.2 ⟨rfl,rfl⟩
        have e3:(wd != y) = true:=by simp only [bne,e1];rfl
        have hw1:IntKind.i64.wrap 8 = 8:=by rw [IntKind.wrap_i64];omega
        clear hnw
        go_wp2_with fail
        have z2:=Z2.out
        have y0:=z2.c0
        have yf0:=z2.free 0
        have y1:=z2.c1
        have yf1:=z2.free 1
        have y2:=z2.c2
        have yf2:=z2.free 2
        have y3:=z2.c3
        have yf3:=z2.free 3
        have y4:=z2.c4
        have yf4:=z2.free 4
        clear z2
        refine wp_region_held_drew (S:=fun w'=>w'.cell? ⟨w2.heap.size,3,none⟩ = some (.string (str y))) (by kernel_rfl) x1 (fun hHeld=>?_)
        refine wpAnyH_take (i:=0) (oi:=_) (v:=?vf3t0) rfl (by kernel_rfl) (by kernel_rfl) (by kernel_rfl) (fun _ _ _ h=>h) (Or.inl ⟨by rfl,?yf3t0⟩) (by assumption) ?rf3t0
        case yf3t0=>(intro w hSw;(try dsimp only at hSw);go_simp;try with_reducible rfl)
        try simp only [sxa,sxb,sxc,Act.put,sxd,sxe,sxf]
        refine wpAnyH_take (i:=1) (oi:=_) (v:=?vf3t1) rfl (by kernel_rfl) (by kernel_rfl) (by kernel_rfl) (fun _ _ _ h=>h) (Or.inl ⟨by rfl,?yf3t1⟩) (by assumption) ?rf3t1
        case yf3t1=>(intro w hSw;(try dsimp only at hSw);go_simp;try with_reducible rfl)
        try simp only [sxa,sxb,sxc,Act.put,sxd,sxe,sxf]
        refine wpAnyH_take (i:=2) (oi:=_) (v:=?vf3t2) rfl (by kernel_rfl) (by kernel_rfl) (by kernel_rfl) (fun _ _ _ h=>h) (Or.inl ⟨by rfl,?yf3t2⟩) (by assumption) ?rf3t2
        case yf3t2=>(intro w hSw;(try dsimp only at hSw);go_simp;try with_reducible rfl)
        try simp only [sxa,sxb,sxc,Act.put,sxd,sxe,sxf]
        refine wpAnyH_take (i:=3) (oi:=_) (v:=?vf3t3) rfl (by kernel_rfl) (by kernel_rfl) (by kernel_rfl) (fun _ _ _ h=>h) (Or.inl ⟨by rfl,?yf3t3⟩) (by assumption) ?rf3t3
        case yf3t3=>(intro w hSw;(try dsimp only at hSw);go_simp;try with_reducible rfl)
        try simp only [sxa,sxb,sxc,Act.put,sxd,sxe,sxf]
        refine wpAnyH_take (i:=4) (oi:=_) (v:=?vf3t4) rfl (by kernel_rfl) (by kernel_rfl) (by kernel_rfl) (fun _ _ _ h=>h) (Or.inl ⟨by rfl,?yf3t4⟩) (by assumption) ?rf3t4
        case yf3t4=>(intro w hSw;(try dsimp only at hSw);go_simp;try with_reducible rfl)
        try simp only [sxa,sxb,sxc,Act.put,sxd,sxe,sxf]
        refine wpAnyH_take (i:=5) (oi:=_) (v:=?vf3t5) rfl (by kernel_rfl) (by kernel_rfl) (by kernel_rfl) (fun _ _ _ h=>h) (Or.inl ⟨by rfl,?yf3t5⟩) (by assumption) ?rf3t5
        case yf3t5=>(intro w hSw;(try dsimp only at hSw);go_simp;try with_reducible rfl)
        try simp only [sxa,sxb,sxc,Act.put,sxd,sxe,sxf]
        refine wpAnyH_take (i:=6) (oi:=_) (v:=?vf3t6) rfl (by kernel_rfl) (by kernel_rfl) (by kernel_rfl) (fun _ _ _ h=>h) (Or.inl ⟨by rfl,?yf3t6⟩) (by assumption) ?rf3t6
        case yf3t6=>(intro w hSw;(try dsimp only at hSw);have c_:=hSw;go_simp;try with_reducible rfl)
        try simp only [sxa,sxb,sxc,Act.put,sxd,sxe,sxf]
        refine wpAnyH_take (i:=7) (oi:=_) (v:=?vf3t7) rfl (by kernel_rfl) (by kernel_rfl) (by kernel_rfl) (fun _ _ _ h=>h) (Or.inl ⟨by rfl,?yf3t7⟩) (by assumption) ?rf3t7
        case yf3t7=>(intro w hSw;(try dsimp only at hSw);go_simp;try with_reducible rfl)
        try simp only [sxa,sxb,sxc,Act.put,sxd,sxe,sxf]
        refine wpAnyH_take (i:=8) (oi:=_) (v:=?vf3t8) rfl (by kernel_rfl) (by kernel_rfl) (by kernel_rfl) (fun _ _ _ h=>h) (Or.inl ⟨by rfl,?yf3t8⟩) (by assumption) ?rf3t8
        case yf3t8=>(intro w hSw;(try dsimp only at hSw);go_simp;try with_reducible rfl)
        try simp only [sxa,sxb,sxc,Act.put,sxd,sxe,sxf]
        refine wpAnyH_ready (rs:=[9]) (by kernel_rfl) (by simp) ?_
        refine AllReadyH.cons (o:=_) rfl (fun K hK=>?_) AllReadyH.nil
        go_simp
        refine hK.out _ _ ?hs351 (fun hHeld2=>?_)
        case hs351=>exact cell_drew (cell_far (cell_far (cell_far (cell_far (cell_far x1 hgd _) hgd _) hgd _) hgd _) hgd _)
        clear hK K hHeld
        have hHeld:=hHeld2
        clear hHeld2
        try simp only [sxa,sxb,sxc,Act.put,sxd,sxe,sxf]
        refine wpAnyH_done (by kernel_rfl) ?_ _
        have R3:=hid ((((((R2.out.far hblt (j:=0) (.int .i64 2)).far hblt (j:=1) (.bool true)).far hblt (j:=2) (.string ⟨#[]⟩)).far hblt (j:=3) (.int .i64 8)).far hblt (j:=4) (.slice none 0 0)))
        go_wp2_with fail
        refine bodyPost_ret (v:=.agg #[.int .i64 2,.bool true,.string (str []),.int .i64 8,.slice none 0 0]) (by first | (simp [results,Tryz.results81,go_sem,y0,y1,y2,y3,y4];done) | (simp [results,Tryz.results81,go_sem,y0,y1,y2,y3,y4];rfl)) rfl ?_
        exact ⟨_,{ kind:=2,n:=8,not:=true },t1,bad,rfl,⟨_,rfl,Sq.RBuf.nil (by have:=O2.out.size;simpa [World.setCell] using this)⟩,R3.out.drew,hle,((((((O2.out.setNew hblt (Nat.le_refl _) _).setNew hblt (Nat.le_refl _) _).setNew hblt (Nat.le_refl _) _).setNew hblt (Nat.le_refl _) _).setNew hblt (Nat.le_refl _) _).trans (Only.of (Below.refl _ _).drew (Nat.le_of_lt R3.out.lt))),II.out.out⟩
     · have hne:nm ≠ y:=fun e=>by
         have h2:=(flag_names nm j).2 (by rw [e];exact hy)
         rw [HQ.out] at h2
         injection h2 with h2
         omega
       have e1:(wd == y) = false:=beq_eq_false_iff_ne.2 fun h=>hne (hnw.1.1 h).2
       have e2:(wd == 85 :: 78 :: y) = false:=beq_eq_false_iff_ne.2 fun h=>hne (hnw.2.1 h).2
       clear hne
       clear hnw hy hun
       go_wp2_with fail
       go_round
       case rel=>exact ⟨j + 1,by omega,by go_num⟩
       case measure=>simp [intOf];omega
  · clear hq
    go_wp2_with (go_at_call 32;refine (hwd _ R1.out).mono ?_;rintro e w2 ⟨rfl,r2,o2⟩;have a2:=(Below.refl w2.heap.size w2).alloc (Nat.le_refl _) (.cells #[.string ⟨#[83,69,69,78]⟩,.string ⟨#[65,78,83,87,69,82,69,68]⟩,.string ⟨#[70,76,65,71,71,69,68]⟩,.string ⟨#[68,69,76,69,84,69,68]⟩,.string ⟨#[68,82,65,70,84]⟩] 9);have hnl:=names_lit w2;have hgd:w2.heap.size ≠ w.heap.size:=(by have:=o2.size;simp at this;omega);have R2:=hid (r2.below a2);have O2:=hid (O1.out.trans (o2.trans (Only.of a2 (Nat.le_of_lt r2.lt))));have Z2:=hid ((Z1.out.only o2 hdb).below a2);clear r2 o2 a2)
    obtain ⟨W,hW⟩:∃ W,W = w2.alloc (.cells #[.string ⟨#[83,69,69,78]⟩,.string ⟨#[65,78,83,87,69,82,69,68]⟩,.string ⟨#[70,76,65,71,71,69,68]⟩,.string ⟨#[68,69,76,69,84,69,68]⟩,.string ⟨#[68,82,65,70,84]⟩] 9):=⟨_,rfl⟩
    rw [← hW] at hnl R2 O2 Z2
    rw [← hW]
    clear hW
    have HN:=hid hnl
    clear hnl
    go_loop [7] (fun v7=>∃ j:Nat,j ≤ 4∧v7 = .int .i64 j) (fun v7=>5 - (intOf v7).toNat)
    case atStart=>exact ⟨0,Nat.zero_le _,rfl⟩
    case round =>
     obtain ⟨j,hj,rfl⟩:=hrel
     obtain ⟨y,hy⟩:∃ y,namesG[j]? = some y:=⟨_,List.getElem?_eq_getElem (by simp [namesG];omega)⟩
     have hun:=namesG_un y (List.mem_of_getElem? hy)
     have hnw:=names_word HT.out hun
     have x1:=HN.out j y hy
     have hcat:(⟨#[85,78]⟩:ByteArray) ++ str y = str (85 :: 78 :: y):=by rw [show (⟨#[85,78]⟩:ByteArray) = str [85,78] from rfl,str_append];rfl
     have hyl : y.length ≤ 100 := by have h:∀ z ∈ namesG,z.length ≤ 100:=by decide
                                     exact h y (List.mem_of_getElem? hy)
     have i0:(0:Int) ≤ (j:Int):=by omega
     have i1:(j:Int) < 5:=by omega
     by_cases hjk:j = 4
     · subst hjk
       obtain rfl:y = nm:=Option.some.inj (hy.symm.trans ((flag_names nm 4).1 HQ.out))
       clear hy hun
       cases un with
       | false =>
        have e1:(wd == y) = true:=by simpa using hnw.1.2 ⟨rfl,rfl⟩
        have e3:(wd != y) = false:=by simp only [bne,e1];rfl
        have hw1:IntKind.i64.wrap 16 = 16:=by rw [IntKind.wrap_i64];omega
        clear hnw
        go_wp2_with fail
        have z2:=Z2.out
        have y0:=z2.c0
        have yf0:=z2.free 0
        have y1:=z2.c1
        have yf1:=z2.free 1
        have y2:=z2.c2
        have yf2:=z2.free 2
        have y3:=z2.c3
        have yf3:=z2.free 3
        have y4:=z2.c4
        have yf4:=z2.free 4
        clear z2
        refine wp_region_held_drew (S:=fun w'=>w'.cell? ⟨w2.heap.size,4,none⟩ = some (.string (str y))) (by kernel_rfl) x1 (fun hHeld=>?_)
        refine wpAnyH_take (i:=0) (oi:=_) (v:=?vf4f0) rfl (by kernel_rfl) (by kernel_rfl) (by kernel_rfl) (fun _ _ _ h=>h) (Or.inl ⟨by rfl,?yf4f0⟩) (by assumption) ?rf4f0
        case yf4f0=>(intro w hSw;(try dsimp only at hSw);go_simp;try with_reducible rfl)
        try simp only [sxa,sxb,sxc,Act.put,sxd,sxe,sxf]
        refine wpAnyH_take (i:=1) (oi:=_) (v:=?vf4f1) rfl (by kernel_rfl) (by kernel_rfl) (by kernel_rfl) (fun _ _ _ h=>h) (Or.inl ⟨by rfl,?yf4f1⟩) (by assumption) ?rf4f1
        case yf4f1=>(intro w hSw;(try dsimp only at hSw);go_simp;try with_reducible rfl)
        try simp only [sxa,sxb,sxc,Act.put,sxd,sxe,sxf]
        refine wpAnyH_take (i:=2) (oi:=_) (v:=?vf4f2) rfl (by kernel_rfl) (by kernel_rfl) (by kernel_rfl) (fun _ _ _ h=>h) (Or.inl ⟨by rfl,?yf4f2⟩) (by assumption) ?rf4f2
        case yf4f2=>(intro w hSw;(try dsimp only at hSw);go_simp;try with_reducible rfl)
        try simp only [sxa,sxb,sxc,Act.put,sxd,sxe,sxf]
        refine wpAnyH_take (i:=3) (oi:=_) (v:=?vf4f3) rfl (by kernel_rfl) (by kernel_rfl) (by kernel_rfl) (fun _ _ _ h=>h) (Or.inl ⟨by rfl,?yf4f3⟩) (by assumption) ?rf4f3
        case yf4f3=>(intro w hSw;(try dsimp only at hSw);go_simp;try with_reducible rfl)
        try simp only [sxa,sxb,sxc,Act.put,sxd,sxe,sxf]
        refine wpAnyH_take (i:=4) (oi:=_) (v:=?vf4f4) rfl (by kernel_rfl) (by kernel_rfl) (by kernel_rfl) (fun _ _ _ h=>h) (Or.inl ⟨by rfl,?yf4f4⟩) (by assumption) ?rf4f4
        case yf4f4=>(intro w hSw;(try dsimp only at hSw);go_simp;try with_reducible rfl)
        try simp only [sxa,sxb,sxc,Act.put,sxd,sxe,sxf]
        refine wpAnyH_take (i:=5) (oi:=_) (v:=?vf4f5) rfl (by kernel_rfl) (by kernel_rfl) (by kernel_rfl) (fun _ _ _ h=>h) (Or.inl ⟨by rfl,?yf4f5⟩) (by assumption) ?rf4f5
        case yf4f5=>(intro w hSw;(try dsimp only at hSw);go_simp;try with_reducible rfl)
        try simp only [sxa,sxb,sxc,Act.put,sxd,sxe,sxf]
        refine wpAnyH_take (i:=6) (oi:=_) (v:=?vf4f6) rfl (by kernel_rfl) (by kernel_rfl) (by kernel_rfl) (fun _ _ _ h=>h) (Or.inl ⟨by rfl,?yf4f6⟩) (by assumption) ?rf4f6
        case yf4f6=>(intro w hSw;(try dsimp only at hSw);have c_:=hSw;go_simp;try with_reducible rfl)
        try simp only [sxa,sxb,sxc,Act.put,sxd,sxe,sxf]
        refine wpAnyH_take (i:=7) (oi:=_) (v:=?vf4f7) rfl (by kernel_rfl) (by kernel_rfl) (by kernel_rfl) (fun _ _ _ h=>h) (Or.inl ⟨by rfl,?yf4f7⟩) (by assumption) ?rf4f7
        case yf4f7=>(intro w hSw;(try dsimp only at hSw);go_simp;try with_reducible rfl)
        try simp only [sxa,sxb,sxc,Act.put,sxd,sxe,sxf]
        refine wpAnyH_take (i:=8) (oi:=_) (v:=?vf4f8) rfl (by kernel_rfl) (by kernel_rfl) (by kernel_rfl) (fun _ _ _ h=>h) (Or.inl ⟨by rfl,?yf4f8⟩) (by assumption) ?rf4f8
        case yf4f8=>(intro w hSw;(try dsimp only at hSw);go_simp;try with_reducible rfl)
        try simp only [sxa,sxb,sxc,Act.put,sxd,sxe,sxf]
        refine wpAnyH_ready (rs:=[9]) (by kernel_rfl) (by simp) ?_
        refine AllReadyH.cons (o:=_) rfl (fun K hK=>?_) AllReadyH.nil
        go_simp
        refine hK.out _ _ ?hs401 (fun hHeld2=>?_)
        case hs401=>exact cell_drew (cell_far (cell_far (cell_far (cell_far (cell_far x1 hgd _) hgd _) hgd _) hgd _) hgd _)
        clear hK K hHeld
        have hHeld:=hHeld2
        clear hHeld2
        try simp only [sxa,sxb,sxc,Act.put,sxd,sxe,sxf]
        refine wpAnyH_done (by kernel_rfl) ?_ _
        have R3:=hid ((((((R2.out.far hblt (j:=0) (.int .i64 2)).far hblt (j:=1) (.bool false)).far hblt (j:=2) (.string ⟨#[]⟩)).far hblt (j:=3) (.int .i64 16)).far hblt (j:=4) (.slice none 0 0)))
        go_wp2_with fail
        refine bodyPost_ret (v:=.agg #[.int .i64 2,.bool false,.string (str []),.int .i64 16,.slice none 0 0]) (by first | (simp [results,Tryz.results81,go_sem,y0,y1,y2,y3,y4];done) | (simp [results,Tryz.results81,go_sem,y0,y1,y2,y3,y4];rfl)) rfl ?_
        exact ⟨_,{ kind:=2,n:=16,not:=false },t1,bad,rfl,⟨_,rfl,Sq.RBuf.nil (by have:=O2.out.size;simpa [World.setCell] using this)⟩,R3.out.drew,hle,((((((O2.out.setNew hblt (Nat.le_refl _) _).setNew hblt (Nat.le_refl _) _).setNew hblt (Nat.le_refl _) _).setNew hblt (Nat.le_refl _) _).setNew hblt (Nat.le_refl _) _).trans (Only.of (Below.refl _ _).drew (Nat.le_of_lt R3.out.lt))),II.out.out⟩
       | true =>
        have e1:(wd == y) = false:=beq_eq_false_iff_ne.2 fun h=>absurd (hnw.1.1 h).1 (by simp)
        have e2:(wd == 85 :: 78 :: y) = true:=by simpa using hnw.2.2 ⟨rfl,rfl⟩
        have e3:(wd != y) = true:=by simp only [bne,e1];rfl
        have hw1:IntKind.i64.wrap 16 = 16:=by rw [IntKind.wrap_i64];omega
        clear hnw
        go_wp2_with fail
        have z2:=Z2.out
        have y0:=z2.c0
        have yf0:=z2.free 0
        have y1:=z2.c1
        have yf1:=z2.free 1
        have y2:=z2.c2
        have yf2:=z2.free 2
        have y3:=z2.c3
        have yf3:=z2.free 3
        have y4:=z2.c4
        have yf4:=z2.free 4
        clear z2
        refine wp_region_held_drew (S:=fun w'=>w'.cell? ⟨w2.heap.size,4,none⟩ = some (.string (str y))) (by kernel_rfl) x1 (fun hHeld=>?_)
        refine wpAnyH_take (i:=0) (oi:=_) (v:=?vf4t0) rfl (by kernel_rfl) (by kernel_rfl) (by kernel_rfl) (fun _ _ _ h=>h) (Or.inl ⟨by rfl,?yf4t0⟩) (by assumption) ?rf4t0
        case yf4t0=>(intro w hSw;(try dsimp only at hSw);go_simp;try with_reducible rfl)
        try simp only [sxa,sxb,sxc,Act.put,sxd,sxe,sxf]
        refine wpAnyH_take (i:=1) (oi:=_) (v:=?vf4t1) rfl (by kernel_rfl) (by kernel_rfl) (by kernel_rfl) (fun _ _ _ h=>h) (Or.inl ⟨by rfl,?yf4t1⟩) (by assumption) ?rf4t1
        case yf4t1=>(intro w hSw;(try dsimp only at hSw);go_simp;try with_reducible rfl)
        try simp only [sxa,sxb,sxc,Act.put,sxd,sxe,sxf]
        refine wpAnyH_take (i:=2) (oi:=_) (v:=?vf4t2) rfl (by kernel_rfl) (by kernel_rfl) (by kernel_rfl) (fun _ _ _ h=>h) (Or.inl ⟨by rfl,?yf4t2⟩) (by assumption) ?rf4t2
        case yf4t2=>(intro w hSw;(try dsimp only at hSw);go_simp;try with_reducible rfl)
        try simp only [sxa,sxb,sxc,Act.put,sxd,sxe,sxf]
        refine wpAnyH_take (i:=3) (oi:=_) (v:=?vf4t3) rfl (by kernel_rfl) (by kernel_rfl) (by kernel_rfl) (fun _ _ _ h=>h) (Or.inl ⟨by rfl,?yf4t3⟩) (by assumption) ?rf4t3
        case yf4t3=>(intro w hSw;(try dsimp only at hSw);go_simp;try with_reducible rfl)
        try simp only [sxa,sxb,sxc,Act.put,sxd,sxe,sxf]
        refine wpAnyH_take (i:=4) (oi:=_) (v:=?vf4t4) rfl (by kernel_rfl) (by kernel_rfl) (by kernel_rfl) (fun _ _ _ h=>h) (Or.inl ⟨by rfl,?yf4t4⟩) (by assumption) ?rf4t4
        case yf4t4=>(intro w hSw;(try dsimp only at hSw);go_simp;try with_reducible rfl)
        try simp only [sxa,sxb,sxc,Act.put,sxd,sxe,sxf]
        refine wpAnyH_take (i:=5) (oi:=_) (v:=?vf4t5) rfl (by kernel_rfl) (by kernel_rfl) (by kernel_rfl) (fun _ _ _ h=>h) (Or.inl ⟨by rfl,?yf4t5⟩) (by assumption) ?rf4t5
        case yf4t5=>(intro w hSw;(try dsimp only at hSw);go_simp;try with_reducible rfl)
        try simp only [sxa,sxb,sxc,Act.put,sxd,sxe,sxf]
        refine wpAnyH_take (i:=6) (oi:=_) (v:=?vf4t6) rfl (by kernel_rfl) (by kernel_rfl) (by kernel_rfl) (fun _ _ _ h=>h) (Or.inl ⟨by rfl,?yf4t6⟩) (by assumption) ?rf4t6
        case yf4t6=>(intro w hSw;(try dsimp only at hSw);have c_:=hSw;go_simp;try with_reducible rfl)
        try simp only [sxa,sxb,sxc,Act.put,sxd,sxe,sxf]
        refine wpAnyH_take (i:=7) (oi:=_) (v:=?vf4t7) rfl (by kernel_rfl) (by kernel_rfl) (by kernel_rfl) (fun _ _ _ h=>h) (Or.inl ⟨by rfl,?yf4t7⟩) (by assumption) ?rf4t7
        case yf4t7=>(intro w hSw;(try dsimp only at hSw);go_simp;try with_reducible rfl)
        try simp only [sxa,sxb,sxc,Act.put,sxd,sxe,sxf]
        refine wpAnyH_take (i:=8) (oi:=_) (v:=?vf4t8) rfl (by kernel_rfl) (by kernel_rfl) (by kernel_rfl) (fun _ _ _ h=>h) (Or.inl ⟨by rfl,?yf4t8⟩) (by assumption) ?rf4t8
        case yf4t8=>(intro w hSw;(try dsimp only at hSw);go_simp;try with_reducible rfl)
        try simp only [sxa,sxb,sxc,Act.put,sxd,sxe,sxf]
        refine wpAnyH_ready (rs:=[9]) (by kernel_rfl) (by simp) ?_
        refine AllReadyH.cons (o:=_) rfl (fun K hK=>?_) AllReadyH.nil
        go_simp
        refine hK.out _ _ ?hs451 (fun hHeld2=>?_)
        case hs451=>exact cell_drew (cell_far (cell_far (cell_far (cell_far (cell_far x1 hgd _) hgd _) hgd _) hgd _) hgd _)
        clear hK K hHeld
        have hHeld:=hHeld2
        clear hHeld2
        try simp only [sxa,sxb,sxc,Act.put,sxd,sxe,sxf]
        refine wpAnyH_done (by kernel_rfl) ?_ _
        have R3:=hid ((((((R2.out.far hblt (j:=0) (.int .i64 2)).far hblt (j:=1) (.bool true)).far hblt (j:=2) (.string ⟨#[]⟩)).far hblt (j:=3) (.int .i64 16)).far hblt (j:=4) (.slice none 0 0)))
        go_wp2_with fail
        refine bodyPost_ret (v:=.agg #[.int .i64 2,.bool true,.string (str []),.int .i64 16,.slice none 0 0]) (by first | (simp [results,Tryz.results81,go_sem,y0,y1,y2,y3,y4];done) | (simp [results,Tryz.results81,go_sem,y0,y1,y2,y3,y4];rfl)) rfl ?_
        exact ⟨_,{ kind:=2,n:=16,not:=true },t1,bad,rfl,⟨_,rfl,Sq.RBuf.nil (by have:=O2.out.size;simpa [World.setCell] using this)⟩,R3.out.drew,hle,((((((O2.out.setNew hblt (Nat.le_refl _) _).setNew hblt (Nat.le_refl _) _).setNew hblt (Nat.le_refl _) _).setNew hblt (Nat.le_refl _) _).setNew hblt (Nat.le_refl _) _).trans (Only.of (Below.refl _ _).drew (Nat.le_of_lt R3.out.lt))),II.out.out⟩
     · have hne:nm ≠ y:=fun e=>by
         have h2:=(flag_names nm j).2 (by rw [e];exact hy)
         rw [HQ.out] at h2
         injection h2 with h2
         omega
       have e1:(wd == y) = false:=beq_eq_false_iff_ne.2 fun h=>hne (hnw.1.1 h).2
       have e2:(wd == 85 :: 78 :: y) = false:=beq_eq_false_iff_ne.2 fun h=>hne (hnw.2.1 h).2
       clear hne
       clear hnw hy hun
       go_wp2_with fail
       go_round
       case rel=>exact ⟨j + 1,by omega,by go_num⟩
       case measure=>simp [intOf];omega
end Go.Proofs.YtfdmdmahddjjmaaGreatDoor
