/-
  A section's walk.
-/
import Derived.Test.YtfdmdmahddjjmaaGreatDoorPkIm1
import Derived.Test.YtfdmdmahddjjmaaGreatDoorPkOwn
import Derived.Deep.RegionHeld3
set_option linter.unusedVariables false
set_option linter.unusedSimpArgs false
set_option maxRecDepth 100000
namespace Go.Proofs.YtfdmdmahddjjmaaGreatDoor
open Go.RowKit Own Im
attribute [local go_sem] str_toList str_size
set_option maxHeartbeats 8000000 in
theorem section_any (b c:Nat) (s:Bt) (w:World) (k:Int) (pk:Bool) (fr of:Int) (h:RdI w b s) (hc:ItAt w c k (.slice none 0 0) 0 pk fr of) (hbc:b < c) :
  Calls Tryz.prog 132 #[.pointer (some ⟨b,0,none⟩),.pointer (some ⟨c,0,none⟩)] w fun e w'=>SecPost b c w k pk fr of (section_ s) e w':=by
 have hclt:=hc.lt
 have HI:=hid hc
 have hse:=fun W hW=>sees_any b s [93] W hW
 have H:=hid h
 clear h hc
 obtain ⟨k1,h1⟩:∃ k1,Lib.hasPrefix s [93] = k1:=⟨_,rfl⟩
 rw [h1] at hse
 cases k1 with
 | true =>
  rw [section_see h1]
  clear h1
  go_enter Tryz.func132,Tryz.ntmps132
  go_wp2_with (first
   | (go_at_call 91;refine (hse _ H.out).mono ?_;rintro e w1 ⟨rfl,he⟩;obtain rfl:=he.symm))
  go_end0
  exact SecPost.give rfl (Two.refl _ _ _) H.out (GBuf.nil (Nat.le_refl _)) HI.out
 | false =>
  rw [section_go h1]
  clear h1
  obtain ⟨R,hR⟩:∃ R,R = (numsL (s.length + 1) [] s).bind secEnd:=⟨_,rfl⟩
  rw [← hR]
  have HR:=hid hR
  clear hR
  go_enter Tryz.func132,Tryz.ntmps132
  go_wp2_with (first
   | (go_at_call 91;refine (hse _ H.out).mono ?_;rintro e w1 ⟨rfl,he⟩;obtain rfl:=he.symm))
  go_loopw [] (fun wr=>∃ (f:Nat) (l:List Int) (t:Bt) (sv:Value),R = (numsL f l t).bind secEnd∧t.length < f∧l.length ≤ 8∧RdI wr b t∧NBuf w.heap.size wr sv l∧ItAt wr c k sv 0 pk fr of∧Two b c w wr) (fun wr=>rdLen b wr)
  case atStart=>exact ⟨_,[],s,_,HR.out,Nat.lt_succ_self _,by decide,H.out,GBuf.nil (Nat.le_refl _),HI.out,Two.refl _ _ _⟩
  case round =>
   obtain ⟨f,l,t,sv,hr,hl,hl8,hrd,hbuf,hit,ho⟩:=hrel
   clear HR HI H hse
   obtain ⟨f,rfl⟩:∃ k,f = k + 1:=⟨f - 1,by omega⟩
   obtain ⟨A,cc,rfl,hcc,-,-⟩:=hbuf.full
   have c0:=hrd.c
   have f0:=hrd.free
   have i1:=hit.c1
   have j1:=hit.free 1
   have i2:=fun ob=>keep_below ((Below.refl wr.heap.size wr).alloc (Nat.le_refl _) ob) rfl i1
   have HRd:=hid hrd
   have HO:=hid ho
   have HB:=hid hbuf
   have HI:=hid hit
   have hwc:w.heap.size ≤ wr.heap.size:=ho.size
   clear hrd ho hbuf hit
   have hsplit:(t = []∨∃ d t1,t = d :: t1∧isDg d = false)∨∃ d t1,t = d :: t1∧isDg d = true:=by
    cases t with
    | nil=>exact .inl (.inl rfl)
    | cons d t1 =>
     cases hd:isDg d with
     | true=>exact .inr ⟨d,t1,rfl,hd⟩
     | false=>exact .inl (.inr ⟨d,t1,rfl,hd⟩)
   rcases hsplit with hend | ⟨d,t1,rfl,hd⟩
   · rw [nums_end hend] at hr
     have hr2:R = (whatOf l (Im.word t).1).map fun k=>((l,k),(Im.word t).2):=by rw [hr];simp [secEnd]
     clear hr
     have hwd:=fun W hW=>word_any b t W hW
     obtain ⟨x,s2,hw⟩:∃ x s2,Im.word t = (x,s2):=⟨_,_,rfl⟩
     rw [hw] at hr2 hwd
     dsimp only at hr2 hwd
     clear hw
     have hways:(l = []∧((x = [72,69,65,68,69,82]∧R = some ((l,1),s2))∨(x = [84,69,88,84]∧R = some ((l,2),s2))∨(x ≠ [72,69,65,68,69,82]∧x ≠ [84,69,88,84]∧R = none)))∨(0 < l.length∧((x = [77,73,77,69]∧R = some ((l,3),s2))∨(x = []∧R = none)∨(x ≠ [77,73,77,69]∧x ≠ []∧R = none))):=by
      unfold whatOf at hr2
      by_cases hln:l = []
      · left
        refine ⟨hln,?_⟩
        rw [if_pos hln] at hr2
        by_cases e1:x = [72,69,65,68,69,82]
        · rw [if_pos e1] at hr2;exact .inl ⟨e1,hr2⟩
        rw [if_neg e1] at hr2
        by_cases e2:x = [84,69,88,84]
        · rw [if_pos e2] at hr2;exact .inr (.inl ⟨e2,hr2⟩)
        rw [if_neg e2] at hr2
        exact .inr (.inr ⟨e1,e2,hr2⟩)
      · right
        refine ⟨List.length_pos_iff.2 hln,?_⟩
        rw [if_neg hln] at hr2
        by_cases e1:x = [77,73,77,69]
        · rw [if_pos e1] at hr2;exact .inl ⟨e1,hr2⟩
        rw [if_neg e1] at hr2
        by_cases e2:x = []
        · exact .inr (.inl ⟨e2,hr2⟩)
        · exact .inr (.inr ⟨e1,e2,hr2⟩)
     clear hr2
     have hkinds:∃ (kk:Int),(l = []∧nameI [[72,69,65,68,69,82],[84,69,88,84]] x = kk∧((x = [72,69,65,68,69,82]∧R = some ((l,1),s2)∧kk = 0)∨(x = [84,69,88,84]∧R = some ((l,2),s2)∧kk = 1)∨(x ≠ [72,69,65,68,69,82]∧x ≠ [84,69,88,84]∧R = none∧kk = -1)))∨(0 < l.length∧nameI [[],[],[77,73,77,69]] x = kk∧((x = [77,73,77,69]∧R = some ((l,3),s2)∧kk = 2)∨(x = []∧R = none∧kk = 0)∨(x ≠ [77,73,77,69]∧x ≠ []∧R = none∧kk = -1))):=by
      rcases hways with ⟨h0,⟨h1,h2⟩ | ⟨h1,h2⟩ | ⟨h1,h2,h3⟩⟩ | ⟨h0,⟨h1,h2⟩ | ⟨h1,h2⟩ | ⟨h1,h2,h3⟩⟩
      · exact ⟨0,.inl ⟨h0,by rw [h1];rfl,.inl ⟨h1,h2,rfl⟩⟩⟩
      · exact ⟨1,.inl ⟨h0,by rw [h1];rfl,.inr (.inl ⟨h1,h2,rfl⟩)⟩⟩
      · exact ⟨-1,.inl ⟨h0,by simp [nameI,List.findIdx?_cons,(beq_eq_false_iff_ne).2 (Ne.symm h1),(beq_eq_false_iff_ne).2 (Ne.symm h2)],.inr (.inr ⟨h1,h2,h3,rfl⟩)⟩⟩
      · exact ⟨2,.inr ⟨h0,by rw [h1];rfl,.inl ⟨h1,h2,rfl⟩⟩⟩
      · exact ⟨0,.inr ⟨h0,by rw [h1];rfl,.inr (.inl ⟨h1,h2,rfl⟩)⟩⟩
      · exact ⟨-1,.inr ⟨h0,by simp [nameI,List.findIdx?_cons,(beq_eq_false_iff_ne).2 (Ne.symm h1),(beq_eq_false_iff_ne).2 (Ne.symm h2)],.inr (.inr ⟨h1,h2,h3,rfl⟩)⟩⟩
     clear hways
     obtain ⟨kk,hkinds⟩:=hkinds
     rcases hend with rfl | ⟨d,t1,rfl,hd⟩
     all_goals
      try (have hix:∀ h:0 < (str (d :: t1)).size,(str (d :: t1))[0] = d:=fun h=>rfl)
      try (have z3:=str_size (d :: t1))
      have hdg:∀ (d:UInt8) W,isDg d = false→Calls Tryz.prog 89 #[.int .u8 d.toNat] W fun e w'=>e = .returned (.bool false)∧W = w':=fun d W h=>by have:=digit_any d W;rw [h] at this;exact this
      rcases hkinds with ⟨rfl,hk,hx⟩ | ⟨hpos,hk,hx⟩
      · rcases hx with ⟨rfl,hrr,rfl⟩ | ⟨rfl,hrr,rfl⟩ | ⟨-,-,hrr,rfl⟩
        all_goals
         have HRR:=hid hrr
         clear hrr
         go_wp2_with (first
          | (go_at_call 89;refine (hdg _ _ hd).mono ?_;rintro e w5 ⟨rfl,rfl⟩)
          | (go_at_call 25;refine (hwd _ (HRd.out.below ((Below.refl _ _).alloc (Nat.le_refl _) _))).mono ?_;rintro e w6 ⟨rfl,r6,o6⟩;have hn:∀ (j:Nat) (y:Bt),([[72,69,65,68,69,82],[84,69,88,84]]:List Bt)[j]? = some y→w6.cell? ⟨wr.heap.size,j,none⟩ = some (.string (str y)):=fun j y hy=>o6.cell (by have:=HRd.out.lt;omega) (two_cells _ _ _ _ (by simp) (by rfl) j y hy);have n0:=hn 0 _ rfl;have n1:=hn 1 _ rfl;have k6:=(HI.out.below ((Below.refl _ _).alloc (Nat.le_refl _) _)).only o6 (by omega);have k2:=k6.c2;have e2:=k6.free 2;have hN:=hid hn;have O6:=hid (Only.trans (Only.of ((Below.refl _ _).alloc (Nat.le_refl _) _) (Nat.le_of_lt HRd.out.lt)) o6);have R6:=hid r6;have K6:=hid k6;clear hn k6 r6 o6)
          | (go_at_call 123;refine (names_any [[72,69,65,68,69,82],[84,69,88,84]] _ _ hk (by decide) _ _ _ hN.out).mono ?_;rintro e w7 ⟨rfl,he⟩;obtain rfl:=he.symm)
          | (go_at_call 28;first | (refine (must_t _).mono ?_;rintro e w8 ⟨rfl,he⟩;obtain rfl:=he.symm) | (refine (must_f _).mono ?_;rintro e w8 ⟨rfl,he⟩;obtain rfl:=he.symm)))
         first
          | exact ⟨rfl,SecPost.panic HRR.out (HO.out.trans O6.out.two)⟩
          | (go_end0;exact SecPost.give HRR.out ((HO.out.trans O6.out.two).trans (Two.set _ hbc _ _)) (R6.out.far hbc _) ((HB.out.stays (O6.out.stays (by omega))).stays ((setStays _ _ _ _).mono (by omega))) (K6.out.set2 _))
      · have hpos':(0:Int) < (l.length:Int):=by omega
        rcases hx with ⟨rfl,hrr,rfl⟩ | ⟨rfl,hrr,rfl⟩ | ⟨-,-,hrr,rfl⟩
        all_goals
         have HRR:=hid hrr
         clear hrr
         go_wp2_with (first
          | (go_at_call 89;refine (hdg _ _ hd).mono ?_;rintro e w5 ⟨rfl,rfl⟩)
          | (go_at_call 25;refine (hwd _ (HRd.out.below (((Below.refl _ _).alloc (Nat.le_refl _) _).alloc (by simp) _))).mono ?_;rintro e w6 ⟨rfl,r6,o6⟩;have hn:∀ (j:Nat) (y:Bt),([[],[],[77,73,77,69]]:List Bt)[j]? = some y→w6.cell? ⟨wr.heap.size + 1,j,none⟩ = some (.string (str y)):=fun j y hy=>o6.cell (by have:=HRd.out.lt;omega) (two_cells _ _ _ _ (by simp) (by rfl) j y hy);have n0:=hn 0 _ rfl;have n1:=hn 1 _ rfl;have n2:=hn 2 _ rfl;have k6:=(HI.out.below (((Below.refl _ _).alloc (Nat.le_refl _) _).alloc (by simp) _)).only o6 (by omega);have k2:=k6.c2;have e2:=k6.free 2;have hN:=hid hn;have O6:=hid (Only.trans (Only.of (((Below.refl _ _).alloc (Nat.le_refl _) _).alloc (by simp) _) (Nat.le_of_lt HRd.out.lt)) o6);have R6:=hid r6;have K6:=hid k6;clear hn k6 r6 o6)
          | (go_at_call 123;refine (names_any [[],[],[77,73,77,69]] _ _ hk (by decide) _ _ _ hN.out).mono ?_;rintro e w7 ⟨rfl,he⟩;obtain rfl:=he.symm)
          | (go_at_call 28;first | (refine (must_t _).mono ?_;rintro e w8 ⟨rfl,he⟩;obtain rfl:=he.symm) | (refine (must_f _).mono ?_;rintro e w8 ⟨rfl,he⟩;obtain rfl:=he.symm)))
         first
          | exact ⟨rfl,SecPost.panic HRR.out (HO.out.trans O6.out.two)⟩
          | (go_end0;exact SecPost.give HRR.out ((HO.out.trans O6.out.two).trans (Two.set _ hbc _ _)) (R6.out.far hbc _) ((HB.out.stays (O6.out.stays (by omega))).stays ((setStays _ _ _ _).mono (by omega))) (K6.out.set2 _))
   · rw [nums_on hd] at hr
     have hnum:=fun W hW=>num_any b (d :: t1) 1 99 W hW
     obtain ⟨q,hq⟩:∃ q,number 1 99 (d :: t1) = q:=⟨_,rfl⟩
     rw [hq] at hr hnum
     have hix:∀ h:0 < (str (d :: t1)).size,(str (d :: t1))[0] = d:=fun h=>rfl
     have z3:=str_size (d :: t1)
     have hdg:∀ W,Calls Tryz.prog 89 #[.int .u8 d.toNat] W fun e w'=>e = .returned (.bool true)∧W = w':=fun W=>by have:=digit_any d W;rw [hd] at this;exact this
     have i0:wr.drew.cell? ⟨c,1,none⟩ = some (.slice A l.length cc):=i1
     cases q with
     | none =>
      have HR2:Hid (R = none):=hid (by rw [hr];rfl)
      clear hr hq
      go_wp2_with (go_at_call 89;refine (hdg _).mono ?_;rintro e w5 ⟨rfl,rfl⟩)
      refine wp_region_held_drew (S:=fun w'=>w'.cell? ⟨c,1,none⟩ = some (.slice A l.length cc)) (by kernel_rfl) i0 (fun hHeld=>?_)
      refine wpAnyH_take (i:=0) (oi:=_) (v:=?vn0) rfl (by kernel_rfl) (by kernel_rfl) (by kernel_rfl) (fun _ _ _ h=>h) (Or.inl ⟨by rfl,?yn0⟩) (by assumption) ?rn0
      case yn0=>(intro w hSw;(try dsimp only at hSw);go_simp;try with_reducible rfl)
      try simp only [sxa,sxb,sxc,Act.put,sxd,sxe,sxf]
      refine wpAnyH_take (i:=1) (oi:=_) (v:=?vn1) rfl (by kernel_rfl) (by kernel_rfl) (by kernel_rfl) (fun _ _ _ h=>h) (Or.inl ⟨by rfl,?yn1⟩) (by assumption) ?rn1
      case yn1=>(intro w hSw;(try dsimp only at hSw);go_simp;try with_reducible rfl)
      try simp only [sxa,sxb,sxc,Act.put,sxd,sxe,sxf]
      refine wpAnyH_take (i:=2) (oi:=_) (v:=?vn2) rfl (by kernel_rfl) (by kernel_rfl) (by kernel_rfl) (fun _ _ _ h=>h) (Or.inl ⟨by rfl,?yn2⟩) (by assumption) ?rn2
      case yn2=>(intro w hSw;(try dsimp only at hSw);go_simp;try with_reducible rfl)
      try simp only [sxa,sxb,sxc,Act.put,sxd,sxe,sxf]
      refine wpAnyH_take (i:=3) (oi:=_) (v:=?vn3) rfl (by kernel_rfl) (by kernel_rfl) (by kernel_rfl) (fun _ _ _ h=>h) (Or.inl ⟨by rfl,?yn3⟩) (by assumption) ?rn3
      case yn3=>(intro w hSw;(try dsimp only at hSw);go_simp;try with_reducible rfl)
      try simp only [sxa,sxb,sxc,Act.put,sxd,sxe,sxf]
      refine wpAnyH_take (i:=4) (oi:=_) (v:=?vn4) rfl (by kernel_rfl) (by kernel_rfl) (by kernel_rfl) (fun _ _ _ h=>h) (Or.inl ⟨by rfl,?yn4⟩) (by assumption) ?rn4
      case yn4=>(intro w hSw;(try dsimp only at hSw);go_simp;try with_reducible rfl)
      try simp only [sxa,sxb,sxc,Act.put,sxd,sxe,sxf]
      refine wpAnyH_take (i:=5) (oi:=_) (v:=?vn5) rfl (by kernel_rfl) (by kernel_rfl) (by kernel_rfl) (fun _ _ _ h=>h) (Or.inl ⟨by rfl,?yn5⟩) (by assumption) ?rn5
      case yn5=>(intro w hSw;(try dsimp only at hSw);go_simp;try with_reducible rfl)
      try simp only [sxa,sxb,sxc,Act.put,sxd,sxe,sxf]
      refine wpAnyH_ready (rs:=[6]) (by kernel_rfl) (by simp) ?_
      refine AllReadyH.cons (o:=_) rfl (fun K hK=>?_) AllReadyH.nil
      go_simp
      refine (hnum _ HRd.out.drew).mono ?_
      rintro e w6 ⟨o6,rfl⟩
      exact ⟨rfl,SecPost.panic HR2.out (HO.out.trans (Only.trans (Only.of (Below.refl _ _).drew (Nat.le_of_lt HRd.out.lt)) o6).two)⟩
     | some q =>
      obtain ⟨n,t2⟩:=q
      have hl2:=number_le hq
      clear hq
      have HR2:=hid hr
      clear hr
      go_wp2_with (go_at_call 89;refine (hdg _).mono ?_;rintro e w5 ⟨rfl,rfl⟩)
      refine wp_region_held_drew (S:=fun _=>True) (by kernel_rfl) trivial (fun hHeld=>?_)
      refine wpAnyH_take (i:=0) (oi:=_) (v:=?vs0) rfl (by kernel_rfl) (by kernel_rfl) (by kernel_rfl) (fun _ _ _ h=>h) (Or.inl ⟨by rfl,?ys0⟩) (by assumption) ?rs0
      case ys0=>(intro w hSw;(try dsimp only at hSw);go_simp;try with_reducible rfl)
      try simp only [sxa,sxb,sxc,Act.put,sxd,sxe,sxf]
      refine wpAnyH_take (i:=1) (oi:=_) (v:=?vs1) rfl (by kernel_rfl) (by kernel_rfl) (by kernel_rfl) (fun _ _ _ h=>h) (Or.inl ⟨by rfl,?ys1⟩) (by assumption) ?rs1
      case ys1=>(intro w hSw;(try dsimp only at hSw);go_simp;try with_reducible rfl)
      try simp only [sxa,sxb,sxc,Act.put,sxd,sxe,sxf]
      refine wpAnyH_take (i:=2) (oi:=_) (v:=?vs2) rfl (by kernel_rfl) (by kernel_rfl) (by kernel_rfl) (fun _ _ _ h=>h) (Or.inl ⟨by rfl,?ys2⟩) (by assumption) ?rs2
      case ys2=>(intro w hSw;(try dsimp only at hSw);go_simp;try with_reducible rfl)
      try simp only [sxa,sxb,sxc,Act.put,sxd,sxe,sxf]
      refine wpAnyH_take (i:=3) (oi:=_) (v:=?vs3) rfl (by kernel_rfl) (by kernel_rfl) (by kernel_rfl) (fun _ _ _ h=>h) (Or.inl ⟨by rfl,?ys3⟩) (by assumption) ?rs3
      case ys3=>(intro w hSw;(try dsimp only at hSw);go_simp;try with_reducible rfl)
      try simp only [sxa,sxb,sxc,Act.put,sxd,sxe,sxf]
      refine wpAnyH_take (i:=5) (oi:=_) (v:=?vs5) rfl (by kernel_rfl) (by kernel_rfl) (by kernel_rfl) (fun _ _ _ h=>h) (Or.inl ⟨by rfl,?ys5⟩) (by assumption) ?rs5
      case ys5=>(intro w hSw;(try dsimp only at hSw);go_simp;try with_reducible rfl)
      try simp only [sxa,sxb,sxc,Act.put,sxd,sxe,sxf]
      refine wpAnyH_ready (rs:=[4,6]) (by kernel_rfl) (by simp) ?_
      refine AllReadyH.cons (o:=_) rfl (fun K hK=>?_) (AllReadyH.cons (o:=_) rfl (fun K hK=>?_) AllReadyH.nil)
      · go_simp
        refine hK.out _ _ trivial (fun hHeld=>?_)
        clear hK K hHeld
        have hHeld:True:=trivial
        try simp only [sxa,sxb,sxc,Act.put,sxd,sxe,sxf]
        refine wpAnyH_ready (rs:=[6]) (by kernel_rfl) (by simp) ?_
        refine AllReadyH.cons (o:=_) rfl (fun K hK=>?_) AllReadyH.nil
        go_simp
        refine (hnum _ HRd.out.drew).mono ?_
        rintro e w6 ⟨o6,v6,rfl,rfl,r6⟩
        have k6:=(HI.out.below (Below.refl _ _).drew).only o6 (by omega)
        have i6:=k6.c1
        have i7:=fun ob=>keep_below ((Below.refl w6.heap.size w6).alloc (Nat.le_refl _) ob) rfl i6
        have O6:=hid (Only.trans (Only.of (Below.refl _ _).drew (Nat.le_of_lt HRd.out.lt)) o6)
        have R6:=hid r6
        have K6:=hid k6
        clear r6 o6 k6
        go_wp2_with fail
        refine hK.out _ _ trivial (fun hHeld=>?_)
        clear hK K hHeld
        have hHeld:True:=trivial
        try simp only [sxa,sxb,sxc,Act.put,sxd,sxe,sxf]
        refine wpAnyH_ready (rs:=[7]) (by kernel_rfl) (by simp) ?_
        refine AllReadyH.cons (o:=_) rfl (fun K hK=>?_) AllReadyH.nil
        go_simp
        refine hK.out _ _ trivial (fun hHeld=>?_)
        clear hK K hHeld
        have hHeld:True:=trivial
        try simp only [sxa,sxb,sxc,Act.put,sxd,sxe,sxf]
        refine wpAnyH_ready (rs:=[8]) (by kernel_rfl) (by simp) ?_
        refine AllReadyH.cons (o:=_) rfl (fun K hK=>?_) AllReadyH.nil
        refine step_nbuf w.heap.size _ (by rfl) _ _ (by rfl) _ l n (by rfl) ((HB.out.stays (O6.out.stays (by omega))).alloc _) _ 1 (by rfl) (fun j u hu=>lit_cells _ _ _ _ _ (by rfl) j u hu) (by omega) ?_
        intro g7 cap7 w7 hb7 hbel7
        have m7:=((Below.refl w.heap.size w6).alloc (by have:=O6.out.size;omega) _).trans hbel7
        have k7:=K6.out.below' m7 hclt
        have i8:=k7.c1
        have j8:=k7.free 1
        have R7:=hid (R6.out.below' m7 (by omega))
        have K7:=hid k7
        have B7b:Hid (NBuf w.heap.size w7 (.slice (some ⟨g7,0,none⟩) (l.length + 1) cap7) (l ++ [n])):=hid hb7
        have T7:=hid ((HO.out.trans O6.out.two).below m7 (by omega) (Nat.le_refl _))
        clear hb7 hbel7 m7 k7
        refine hK.out _ _ trivial (fun hHeld=>?_)
        clear hK K hHeld
        have hHeld:True:=trivial
        try simp only [sxa,sxb,sxc,Act.put,sxd,sxe,sxf]
        refine wpAnyH_take (i:=9) (oi:=_) (v:=?vt4_9) rfl (by kernel_rfl) (by kernel_rfl) (by kernel_rfl) (fun _ _ _ h=>h) (Or.inl ⟨by rfl,?yt4_9⟩) (by assumption) ?rt4_9
        case yt4_9=>(intro w hSw;(try dsimp only at hSw);go_simp;try with_reducible rfl)
        try simp only [sxa,sxb,sxc,Act.put,sxd,sxe,sxf]
        refine wpAnyH_take (i:=10) (oi:=_) (v:=?vt4_10) rfl (by kernel_rfl) (by kernel_rfl) (by kernel_rfl) (fun _ _ _ h=>h) (Or.inl ⟨by rfl,?yt4_10⟩) (by assumption) ?rt4_10
        case yt4_10=>(intro w hSw;(try dsimp only at hSw);go_simp;try with_reducible rfl)
        try simp only [sxa,sxb,sxc,Act.put,sxd,sxe,sxf]
        refine wpAnyH_ready (rs:=[11]) (by kernel_rfl) (by simp) ?_
        refine AllReadyH.cons (o:=_) rfl (fun K hK=>?_) AllReadyH.nil
        go_simp
        refine hK.out _ _ trivial (fun hHeld=>?_)
        clear hK K hHeld
        have hHeld:True:=trivial
        try simp only [sxa,sxb,sxc,Act.put,sxd,sxe,sxf]
        refine wpAnyH_done (by kernel_rfl) ?_ _
        clear i0 i1 i2 i6 i7 j1 c0 f0 hdg hnum
        go_wp2_with (first
         | (go_at_call 28;refine (must_any _ _).mono ?_;rintro e w9 ⟨h9,he⟩;obtain rfl:=he.symm;rcases must_split h9 with ⟨m9,rfl⟩ | ⟨m9,rfl⟩ <;> (first | (have M9:=hid (of_decide_eq_true m9);clear m9 h9) | (have M9:=hid (of_decide_eq_false m9);clear m9 h9)))
         | (go_at_call 26;refine (takes_any b t2 [46] _ (R7.out.far hbc _)).mono ?_;intro e w10 h10;rcases takes_cases h10 with ⟨s10,q10,rfl,r10,o10⟩ | ⟨s10,q10,rfl,r10,o10⟩ <;> (have O10:=hid o10;have Q10:=hid q10;have R10:=hid r10;clear o10 q10 r10 h10)))
        all_goals first
         | (refine ⟨rfl,SecPost.panic ?_ (T7.out.trans (Two.set _ hbc _ _))⟩;rw [HR2.out,Option.bind_some,if_neg (by have:=M9.out;omega)];rfl)
         | (go_end0;refine SecPost.give (l:=l ++ [n]) (wh:=0) (t:=s10) ?_ ((T7.out.trans (Two.set _ hbc _ _)).trans O10.out.two) R10.out ((B7b.out.stays ((setStays _ _ _ _).mono (by omega))).stays (O10.out.stays (by omega))) ((K7.out.set1 _).only O10.out (by omega));obtain rfl:=takes_no Q10.out;rw [HR2.out,Option.bind_some,if_pos (by have:=M9.out;omega),if_neg (by rw [Q10.out];simp)];rfl)
         | exact ⟨⟨f,l ++ [n],s10,_,(by rw [HR2.out,Option.bind_some,if_pos (by have:=M9.out;omega),if_pos (by rw [Q10.out]),Q10.out]),(by have:=takes_lt Q10.out;simp at this hl hl2;omega),(by have:=M9.out;simp;omega),R10.out,((B7b.out.stays ((setStays _ _ _ _).mono (by omega))).stays (O10.out.stays (by omega))),((K7.out.set1 _).only O10.out (by omega)),((T7.out.trans (Two.set _ hbc _ _)).trans O10.out.two)⟩,(by rw [rdLen_of R10.out,rdLen_of HRd.out];have:=takes_lt Q10.out;simp at this hl2 ⊢;omega)⟩
      · go_simp
        refine (hnum _ HRd.out.drew).mono ?_
        rintro e w6 ⟨o6,v6,rfl,rfl,r6⟩
        have k6:=(HI.out.below (Below.refl _ _).drew).only o6 (by omega)
        have i6:=k6.c1
        have i7:=fun ob=>keep_below ((Below.refl w6.heap.size w6).alloc (Nat.le_refl _) ob) rfl i6
        have O6:=hid (Only.trans (Only.of (Below.refl _ _).drew (Nat.le_of_lt HRd.out.lt)) o6)
        have R6:=hid r6
        have K6:=hid k6
        clear r6 o6 k6
        go_wp2_with fail
        refine hK.out _ _ trivial (fun hHeld=>?_)
        clear hK K hHeld
        have hHeld:True:=trivial
        try simp only [sxa,sxb,sxc,Act.put,sxd,sxe,sxf]
        refine wpAnyH_ready (rs:=[4,7]) (by kernel_rfl) (by simp) ?_
        refine AllReadyH.cons (o:=_) rfl (fun K hK=>?_) (AllReadyH.cons (o:=_) rfl (fun K hK=>?_) AllReadyH.nil)
        · go_simp
          refine hK.out _ _ trivial (fun hHeld=>?_)
          clear hK K hHeld
          have hHeld:True:=trivial
          try simp only [sxa,sxb,sxc,Act.put,sxd,sxe,sxf]
          refine wpAnyH_ready (rs:=[7]) (by kernel_rfl) (by simp) ?_
          refine AllReadyH.cons (o:=_) rfl (fun K hK=>?_) AllReadyH.nil
          go_simp
          refine hK.out _ _ trivial (fun hHeld=>?_)
          clear hK K hHeld
          have hHeld:True:=trivial
          try simp only [sxa,sxb,sxc,Act.put,sxd,sxe,sxf]
          refine wpAnyH_ready (rs:=[8]) (by kernel_rfl) (by simp) ?_
          refine AllReadyH.cons (o:=_) rfl (fun K hK=>?_) AllReadyH.nil
          refine step_nbuf w.heap.size _ (by rfl) _ _ (by rfl) _ l n (by rfl) ((HB.out.stays (O6.out.stays (by omega))).alloc _) _ 1 (by rfl) (fun j u hu=>lit_cells _ _ _ _ _ (by rfl) j u hu) (by omega) ?_
          intro g7 cap7 w7 hb7 hbel7
          have m7:=((Below.refl w.heap.size w6).alloc (by have:=O6.out.size;omega) _).trans hbel7
          have k7:=K6.out.below' m7 hclt
          have i8:=k7.c1
          have j8:=k7.free 1
          have R7:=hid (R6.out.below' m7 (by omega))
          have K7:=hid k7
          have B7b:Hid (NBuf w.heap.size w7 (.slice (some ⟨g7,0,none⟩) (l.length + 1) cap7) (l ++ [n])):=hid hb7
          have T7:=hid ((HO.out.trans O6.out.two).below m7 (by omega) (Nat.le_refl _))
          clear hb7 hbel7 m7 k7
          refine hK.out _ _ trivial (fun hHeld=>?_)
          clear hK K hHeld
          have hHeld:True:=trivial
          try simp only [sxa,sxb,sxc,Act.put,sxd,sxe,sxf]
          refine wpAnyH_take (i:=9) (oi:=_) (v:=?vt9_9) rfl (by kernel_rfl) (by kernel_rfl) (by kernel_rfl) (fun _ _ _ h=>h) (Or.inl ⟨by rfl,?yt9_9⟩) (by assumption) ?rt9_9
          case yt9_9=>(intro w hSw;(try dsimp only at hSw);go_simp;try with_reducible rfl)
          try simp only [sxa,sxb,sxc,Act.put,sxd,sxe,sxf]
          refine wpAnyH_take (i:=10) (oi:=_) (v:=?vt9_10) rfl (by kernel_rfl) (by kernel_rfl) (by kernel_rfl) (fun _ _ _ h=>h) (Or.inl ⟨by rfl,?yt9_10⟩) (by assumption) ?rt9_10
          case yt9_10=>(intro w hSw;(try dsimp only at hSw);go_simp;try with_reducible rfl)
          try simp only [sxa,sxb,sxc,Act.put,sxd,sxe,sxf]
          refine wpAnyH_ready (rs:=[11]) (by kernel_rfl) (by simp) ?_
          refine AllReadyH.cons (o:=_) rfl (fun K hK=>?_) AllReadyH.nil
          go_simp
          refine hK.out _ _ trivial (fun hHeld=>?_)
          clear hK K hHeld
          have hHeld:True:=trivial
          try simp only [sxa,sxb,sxc,Act.put,sxd,sxe,sxf]
          refine wpAnyH_done (by kernel_rfl) ?_ _
          clear i0 i1 i2 i6 i7 j1 c0 f0 hdg hnum
          go_wp2_with (first
           | (go_at_call 28;refine (must_any _ _).mono ?_;rintro e w9 ⟨h9,he⟩;obtain rfl:=he.symm;rcases must_split h9 with ⟨m9,rfl⟩ | ⟨m9,rfl⟩ <;> (first | (have M9:=hid (of_decide_eq_true m9);clear m9 h9) | (have M9:=hid (of_decide_eq_false m9);clear m9 h9)))
           | (go_at_call 26;refine (takes_any b t2 [46] _ (R7.out.far hbc _)).mono ?_;intro e w10 h10;rcases takes_cases h10 with ⟨s10,q10,rfl,r10,o10⟩ | ⟨s10,q10,rfl,r10,o10⟩ <;> (have O10:=hid o10;have Q10:=hid q10;have R10:=hid r10;clear o10 q10 r10 h10)))
          all_goals first
           | (refine ⟨rfl,SecPost.panic ?_ (T7.out.trans (Two.set _ hbc _ _))⟩;rw [HR2.out,Option.bind_some,if_neg (by have:=M9.out;omega)];rfl)
           | (go_end0;refine SecPost.give (l:=l ++ [n]) (wh:=0) (t:=s10) ?_ ((T7.out.trans (Two.set _ hbc _ _)).trans O10.out.two) R10.out ((B7b.out.stays ((setStays _ _ _ _).mono (by omega))).stays (O10.out.stays (by omega))) ((K7.out.set1 _).only O10.out (by omega));obtain rfl:=takes_no Q10.out;rw [HR2.out,Option.bind_some,if_pos (by have:=M9.out;omega),if_neg (by rw [Q10.out];simp)];rfl)
           | exact ⟨⟨f,l ++ [n],s10,_,(by rw [HR2.out,Option.bind_some,if_pos (by have:=M9.out;omega),if_pos (by rw [Q10.out]),Q10.out]),(by have:=takes_lt Q10.out;simp at this hl hl2;omega),(by have:=M9.out;simp;omega),R10.out,((B7b.out.stays ((setStays _ _ _ _).mono (by omega))).stays (O10.out.stays (by omega))),((K7.out.set1 _).only O10.out (by omega)),((T7.out.trans (Two.set _ hbc _ _)).trans O10.out.two)⟩,(by rw [rdLen_of R10.out,rdLen_of HRd.out];have:=takes_lt Q10.out;simp at this hl2 ⊢;omega)⟩
        · go_simp
          refine hK.out _ _ trivial (fun hHeld=>?_)
          clear hK K hHeld
          have hHeld:True:=trivial
          try simp only [sxa,sxb,sxc,Act.put,sxd,sxe,sxf]
          refine wpAnyH_ready (rs:=[4]) (by kernel_rfl) (by simp) ?_
          refine AllReadyH.cons (o:=_) rfl (fun K hK=>?_) AllReadyH.nil
          go_simp
          refine hK.out _ _ trivial (fun hHeld=>?_)
          clear hK K hHeld
          have hHeld:True:=trivial
          try simp only [sxa,sxb,sxc,Act.put,sxd,sxe,sxf]
          refine wpAnyH_ready (rs:=[8]) (by kernel_rfl) (by simp) ?_
          refine AllReadyH.cons (o:=_) rfl (fun K hK=>?_) AllReadyH.nil
          refine step_nbuf w.heap.size _ (by rfl) _ _ (by rfl) _ l n (by rfl) ((HB.out.stays (O6.out.stays (by omega))).alloc _) _ 1 (by rfl) (fun j u hu=>lit_cells _ _ _ _ _ (by rfl) j u hu) (by omega) ?_
          intro g7 cap7 w7 hb7 hbel7
          have m7:=((Below.refl w.heap.size w6).alloc (by have:=O6.out.size;omega) _).trans hbel7
          have k7:=K6.out.below' m7 hclt
          have i8:=k7.c1
          have j8:=k7.free 1
          have R7:=hid (R6.out.below' m7 (by omega))
          have K7:=hid k7
          have B7b:Hid (NBuf w.heap.size w7 (.slice (some ⟨g7,0,none⟩) (l.length + 1) cap7) (l ++ [n])):=hid hb7
          have T7:=hid ((HO.out.trans O6.out.two).below m7 (by omega) (Nat.le_refl _))
          clear hb7 hbel7 m7 k7
          refine hK.out _ _ trivial (fun hHeld=>?_)
          clear hK K hHeld
          have hHeld:True:=trivial
          try simp only [sxa,sxb,sxc,Act.put,sxd,sxe,sxf]
          refine wpAnyH_take (i:=9) (oi:=_) (v:=?vt13_9) rfl (by kernel_rfl) (by kernel_rfl) (by kernel_rfl) (fun _ _ _ h=>h) (Or.inl ⟨by rfl,?yt13_9⟩) (by assumption) ?rt13_9
          case yt13_9=>(intro w hSw;(try dsimp only at hSw);go_simp;try with_reducible rfl)
          try simp only [sxa,sxb,sxc,Act.put,sxd,sxe,sxf]
          refine wpAnyH_take (i:=10) (oi:=_) (v:=?vt13_10) rfl (by kernel_rfl) (by kernel_rfl) (by kernel_rfl) (fun _ _ _ h=>h) (Or.inl ⟨by rfl,?yt13_10⟩) (by assumption) ?rt13_10
          case yt13_10=>(intro w hSw;(try dsimp only at hSw);go_simp;try with_reducible rfl)
          try simp only [sxa,sxb,sxc,Act.put,sxd,sxe,sxf]
          refine wpAnyH_ready (rs:=[11]) (by kernel_rfl) (by simp) ?_
          refine AllReadyH.cons (o:=_) rfl (fun K hK=>?_) AllReadyH.nil
          go_simp
          refine hK.out _ _ trivial (fun hHeld=>?_)
          clear hK K hHeld
          have hHeld:True:=trivial
          try simp only [sxa,sxb,sxc,Act.put,sxd,sxe,sxf]
          refine wpAnyH_done (by kernel_rfl) ?_ _
          clear i0 i1 i2 i6 i7 j1 c0 f0 hdg hnum
          go_wp2_with (first
           | (go_at_call 28;refine (must_any _ _).mono ?_;rintro e w9 ⟨h9,he⟩;obtain rfl:=he.symm;rcases must_split h9 with ⟨m9,rfl⟩ | ⟨m9,rfl⟩ <;> (first | (have M9:=hid (of_decide_eq_true m9);clear m9 h9) | (have M9:=hid (of_decide_eq_false m9);clear m9 h9)))
           | (go_at_call 26;refine (takes_any b t2 [46] _ (R7.out.far hbc _)).mono ?_;intro e w10 h10;rcases takes_cases h10 with ⟨s10,q10,rfl,r10,o10⟩ | ⟨s10,q10,rfl,r10,o10⟩ <;> (have O10:=hid o10;have Q10:=hid q10;have R10:=hid r10;clear o10 q10 r10 h10)))
          all_goals first
           | (refine ⟨rfl,SecPost.panic ?_ (T7.out.trans (Two.set _ hbc _ _))⟩;rw [HR2.out,Option.bind_some,if_neg (by have:=M9.out;omega)];rfl)
           | (go_end0;refine SecPost.give (l:=l ++ [n]) (wh:=0) (t:=s10) ?_ ((T7.out.trans (Two.set _ hbc _ _)).trans O10.out.two) R10.out ((B7b.out.stays ((setStays _ _ _ _).mono (by omega))).stays (O10.out.stays (by omega))) ((K7.out.set1 _).only O10.out (by omega));obtain rfl:=takes_no Q10.out;rw [HR2.out,Option.bind_some,if_pos (by have:=M9.out;omega),if_neg (by rw [Q10.out];simp)];rfl)
           | exact ⟨⟨f,l ++ [n],s10,_,(by rw [HR2.out,Option.bind_some,if_pos (by have:=M9.out;omega),if_pos (by rw [Q10.out]),Q10.out]),(by have:=takes_lt Q10.out;simp at this hl hl2;omega),(by have:=M9.out;simp;omega),R10.out,((B7b.out.stays ((setStays _ _ _ _).mono (by omega))).stays (O10.out.stays (by omega))),((K7.out.set1 _).only O10.out (by omega)),((T7.out.trans (Two.set _ hbc _ _)).trans O10.out.two)⟩,(by rw [rdLen_of R10.out,rdLen_of HRd.out];have:=takes_lt Q10.out;simp at this hl2 ⊢;omega)⟩
end Go.Proofs.YtfdmdmahddjjmaaGreatDoor
