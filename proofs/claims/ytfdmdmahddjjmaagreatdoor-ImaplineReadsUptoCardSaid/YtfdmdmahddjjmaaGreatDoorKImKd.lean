/-
  A key: the ways of its walk.
-/
import Derived.Test.YtfdmdmahddjjmaaGreatDoorPkKy
set_option linter.unusedVariables false
set_option linter.unusedSimpArgs false
set_option maxRecDepth 100000
namespace Go.Proofs.YtfdmdmahddjjmaaGreatDoor
open Go.RowKit Own Im
attribute [local go_sem] str_toList str_size
set_option maxHeartbeats 8000000 in
theorem key_text (dp:Int) (b:Nat) (s:Bt) (w:World) (h:RdI w b s) (hh:headB s = false) (wd t1 nm:Bt) (un:Bool) (hw:Im.word s = (wd,t1)) (htk:takes [85,78] wd = (un,nm)) (hq:flagAt nm = none) (K1 K2:Int) (hK1:kindOf textKinds wd = K1) (hK2:kindOf sizeKinds wd = K2) (e1:(wd == [65,76,76]) = false) (e2:(wd == [78,79,84]) = false) (e3:(wd == [85,73,68]) = false) (hk:0 < K1) (R:Option (Ky × Bt)) (hR:R = (then_ t1).map fun q=>({ kind:=K1,text:=q.1 },q.2)) :
  Calls Tryz.prog 66 #[.pointer (some ⟨b,0,none⟩),.int .i64 dp] w fun e w'=>Reads b w (vKey w.heap.size) R e w':=by
 have hblt:=h.lt
 have HQ:=hid hq
 clear hq
 have hdb:w.heap.size ≠ b:=by omega
 have a1:Below w.heap.size w (w.alloc (.cells #[.int .i64 0,.bool false,.string ⟨#[]⟩,.int .i64 0,.slice none 0 0] 39)):=(Below.refl _ _).alloc (Nat.le_refl _) _
 have R1:=hid (h.below a1)
 have O1:=hid (Only.of a1 (Nat.le_of_lt hblt))
 have Z1:Hid (KyB (w.alloc (.cells #[.int .i64 0,.bool false,.string ⟨#[]⟩,.int .i64 0,.slice none 0 0] 39)) w.heap.size (.int .i64 0) (.bool false) (.string ⟨#[]⟩) (.int .i64 0) (.slice none 0 0)):=hid (heap_alloc_new w _)
 have HR:=hid hR
 have hmm:=@run_makeMap Tryz.prog
 have hmf:∀ (fn:Fn) (first cap:Array Value) (w:World),(Instr.makeFunc fn first cap).run Tryz.prog w = .ok (.func fn first cap) w:=fun _ _ _ _=>rfl
 have hwd:=fun W hW=>word_any b s W hW
 rw [hw] at hwd
 dsimp only at hwd
 have hcp:∀ W:World,Calls Tryz.prog 48 #[.string (str wd),.string (str [85,78])] W fun e w'=>e = .returned (.tuple #[.string (str nm),.bool un])∧w' = W:=fun W=>by
  refine (Tryz.strings_CutPrefix (str wd) (str [85,78]) W).mono ?_
  rintro e w' ⟨rfl,rfl⟩
  refine ⟨?_,rfl⟩
  have e1:(takes [85,78] wd).1 = un:=by rw [htk]
  have e2:(takes [85,78] wd).2 = nm:=by rw [htk]
  rw [← e1,← e2,takes_fst,← trim_drop]
  rfl
 clear hR h a1 hw htk
 have tok0:Tk 0:=⟨⟩
 go_enter Tryz.func66,Tryz.ntmps66
 go_upto_region 1 with fail
 go_cut [32] from 12 to 31 (fun v32 wx=>v32 = .bool false∧wx = (w.alloc (.cells #[.int .i64 0,.bool false,.string ⟨#[]⟩,.int .i64 0,.slice none 0 0] 39)))
 case first =>
  have hc0:=R1.out.c
  rcases s with _ | ⟨c,s'⟩
  · go_wp2_with fail
    go_meet
    exact ⟨rfl,rfl⟩
  · have hix:∀ h:0 < (str (c :: s')).size,(str (c :: s'))[0] = c:=fun h=>rfl
    have hz:=str_size (c :: s')
    have hdg:=fun W=>digit_any c W
    have h42:((c.toNat:Int) == 42) = decide (c = 42):=byte_eq c 42 (by decide)
    have hh2:(isDg c || decide (c = 42)) = false:=hh
    obtain ⟨D,hD⟩:∃ D,isDg c = D:=⟨_,rfl⟩
    obtain ⟨E,hE⟩:∃ E,decide (c = 42) = E:=⟨_,rfl⟩
    rw [hD] at hdg hh2
    rw [hE] at h42 hh2
    clear hD hE hh
    have DG:=hid hdg
    clear hdg
    cases D <;> cases E
    · go_wp2_with (go_at_call 89;refine (DG.out _).mono ?_;rintro e w9 ⟨rfl,rfl⟩)
      go_meet
      exact ⟨rfl,rfl⟩
    all_goals cases hh2
 case rest =>
  obtain ⟨rfl,rfl⟩:=hcut
  have hth:=fun W hW=>then_any b t1 W hW
  obtain ⟨q,hq⟩:∃ q,then_ t1 = q:=⟨_,rfl⟩
  rw [hq] at hth
  have HQ2:=hid hq
  clear hq
  go_upto_region 22 with (first
   | (go_at_call 25;refine (hwd _ R1.out).mono ?_;rintro e w2 ⟨rfl,r2,o2⟩;have a2:=(Below.refl w2.heap.size w2).alloc (Nat.le_refl _) (.cells #[.string (str nm)] 9);have c2:=cells_at (heap_alloc_new w2 (.cells #[.string (str nm)] 9)) 0;have R2:=hid (r2.below a2);have O2:=hid (O1.out.trans (o2.trans (Only.of a2 (Nat.le_of_lt r2.lt))));have Z2:=hid ((Z1.out.only o2 hdb).below a2);clear r2 o2 a2)
   | (go_at_call 48;refine (hcp _).mono ?_;rintro e w9 ⟨rfl,he⟩;obtain rfl:=he.symm)
   | (go_at_call 41;refine (flags_any _).mono ?_;rintro e w3 ⟨g,rfl,g1,g2,g3,b3⟩;have R3:=hid (R2.out.below b3);have O3:=hid (O2.out.trans (Only.of b3 (Nat.le_of_lt R2.out.lt)));have Z3:=hid (Z2.out.below b3);have C3:=hid ((b3.cell (by simp)).trans c2);have G3:=hid g3;clear b3 g3)
   | (go_at_call 101;have hx:=idxf_any 102 w2.heap.size nm (enters_of Tryz.func102 (by kernel_rfl) rfl) (fun s W h1 h2=>keyC_any s _ _ W h1 h2) g w3 G3.out C3.out;rw [HQ.out,idxN] at hx;refine hx.mono ?_;clear hx;rintro e w4 ⟨rfl,b4⟩;have R4:=hid (R3.out.below b4);have O4:=hid (O3.out.trans (Only.of b4 (Nat.le_of_lt R3.out.lt)));have z4:=Z3.out.below b4;have y0:=z4.c0;have yf0:=z4.free 0;have y1:=z4.c1;have yf1:=z4.free 1;have y2:=z4.c2;have yf2:=z4.free 2;have y3:=z4.c3;have yf3:=z4.free 3;have y4:=z4.c4;have yf4:=z4.free 4;have Z4:=hid z4;clear b4 z4)
   | (have t_:Tk 0:=‹Tk 0›;refine wpList_putIn w4 _ rfl _ _ _ rfl Tryz.underlying100 Tryz.underlying9 _ _ rfl (MapIn.new' w4) _ rfl _ rfl (by rfl) ?_;intro m1 p1;clear t_ tok0;have tok1:Tk 1:=⟨⟩)
   | (have t_:Tk 1:=‹Tk 1›;refine wpList_putIn w4 _ rfl _ _ _ rfl Tryz.underlying100 Tryz.underlying9 _ _ rfl p1 _ rfl _ rfl (by rfl) ?_;intro m2 p2;clear t_ tok1;have tok2:Tk 2:=⟨⟩)
   | (have t_:Tk 2:=‹Tk 2›;refine wpList_putIn w4 _ rfl _ _ _ rfl Tryz.underlying100 Tryz.underlying9 _ _ rfl p2 _ rfl _ rfl (by rfl) ?_;intro m3 p3;clear t_ tok2;have tok3:Tk 3:=⟨⟩)
   | (have t_:Tk 3:=‹Tk 3›;refine wpList_putIn m3 _ rfl _ _ _ rfl Tryz.underlying100 Tryz.underlying9 _ _ rfl (MapIn.new' m3) _ rfl _ rfl (by rfl) ?_;intro m4 p4;clear t_ tok3;have tok4:Tk 4:=⟨⟩)
   | (have t_:Tk 4:=‹Tk 4›;refine wpList_putIn m3 _ rfl _ _ _ rfl Tryz.underlying100 Tryz.underlying9 _ _ rfl p4 _ rfl _ rfl (by rfl) ?_;intro m5 p5;clear t_ tok4;have tok5:Tk 5:=⟨⟩;have M1:=hid ((show MapAt m3 w4.heap.size (kindV textKinds) from p3.map).below p5.low);have M2:=hid (show MapAt m5 m3.heap.size (kindV sizeKinds) from p5.map);have l5:=below_then p3.low p5.low;have n1:w4.heap.size ≠ b:=(by have:=R4.out.lt;omega);have n2:m3.heap.size ≠ b:=(by have:=R4.out.lt;have:=p3.low.size;omega);have n3:w4.heap.size ≠ w.heap.size:=(by have:=Z4.out.lt;omega);have n4:m3.heap.size ≠ w.heap.size:=(by have:=Z4.out.lt;have:=p3.low.size;omega);have hlk1:=lookK textKinds wd M1.out;have hlk2:=lookK sizeKinds wd M2.out;rw [hK1] at hlk1;rw [hK2] at hlk2;have R5:=hid (R4.out.below l5);have O5:=hid (O4.out.trans (Only.of l5 (Nat.le_of_lt R4.out.lt)));have z5:=Z4.out.below l5;have y0:=z5.c0;have yf0:=z5.free 0;have y1:=z5.c1;have yf1:=z5.free 1;have y2:=z5.c2;have yf2:=z5.free 2;have y3:=z5.c3;have yf3:=z5.free 3;have y4:=z5.c4;have yf4:=z5.free 4;have Z5:=hid z5;clear z5 l5))
  refine wp_region_held_drew (S:=fun w'=>MapAt w' w4.heap.size (kindV textKinds)) (by kernel_rfl) M1.out (fun hHeld=>?_)
  cases q with
  | none =>
   refine wpAnyH_take (i:=0) (oi:=_) (v:=?va0) rfl (by kernel_rfl) (by kernel_rfl) (by kernel_rfl) (fun _ _ _ h=>h) (Or.inl ⟨by rfl,?ya0⟩) (by assumption) ?ra0
   case ya0=>(intro w hSw;(try dsimp only at hSw);go_simp;try with_reducible rfl)
   try simp only [sxa,sxb,sxc,Act.put,sxd,sxe,sxf]
   refine wpAnyH_take (i:=1) (oi:=_) (v:=?va1) rfl (by kernel_rfl) (by kernel_rfl) (by kernel_rfl) (fun _ _ _ h=>h) (Or.inl ⟨by rfl,?ya1⟩) (by assumption) ?ra1
   case ya1=>(intro w hSw;(try dsimp only at hSw);go_simp;try with_reducible rfl)
   try simp only [sxa,sxb,sxc,Act.put,sxd,sxe,sxf]
   refine wpAnyH_take (i:=2) (oi:=_) (v:=?va2) rfl (by kernel_rfl) (by kernel_rfl) (by kernel_rfl) (fun _ _ _ h=>h) (Or.inl ⟨by rfl,?ya2⟩) (by assumption) ?ra2
   case ya2=>(intro w hSw;(try dsimp only at hSw);have hlk:=lookK textKinds wd hSw;rw [hK1] at hlk;go_simp;try with_reducible rfl)
   try simp only [sxa,sxb,sxc,Act.put,sxd,sxe,sxf]
   refine wpAnyH_take (i:=3) (oi:=_) (v:=?va3) rfl (by kernel_rfl) (by kernel_rfl) (by kernel_rfl) (fun _ _ _ h=>h) (Or.inl ⟨by rfl,?ya3⟩) (by assumption) ?ra3
   case ya3=>(intro w hSw;(try dsimp only at hSw);go_simp;try with_reducible rfl)
   try simp only [sxa,sxb,sxc,Act.put,sxd,sxe,sxf]
   refine wpAnyH_ready (rs:=[4]) (by kernel_rfl) (by simp) ?_
   refine AllReadyH.cons (o:=_) rfl (fun K hK=>?_) AllReadyH.nil
   go_simp
   refine (hth _ R5.out.drew).mono ?_
   rintro e w6 ⟨o6,rfl⟩
   exact ⟨rfl,Reads.panic (by rw [HR.out,HQ2.out];rfl) (O5.out.trans (Only.trans (Only.of (Below.refl _ _).drew (Nat.le_of_lt R5.out.lt)) o6))⟩
  | some q =>
   obtain ⟨x6,s6⟩:=q
   refine wpAnyH_take (i:=0) (oi:=_) (v:=?vb0) rfl (by kernel_rfl) (by kernel_rfl) (by kernel_rfl) (fun _ _ _ h=>h) (Or.inl ⟨by rfl,?yb0⟩) (by assumption) ?rb0
   case yb0=>(intro w hSw;(try dsimp only at hSw);go_simp;try with_reducible rfl)
   try simp only [sxa,sxb,sxc,Act.put,sxd,sxe,sxf]
   refine wpAnyH_take (i:=1) (oi:=_) (v:=?vb1) rfl (by kernel_rfl) (by kernel_rfl) (by kernel_rfl) (fun _ _ _ h=>h) (Or.inl ⟨by rfl,?yb1⟩) (by assumption) ?rb1
   case yb1=>(intro w hSw;(try dsimp only at hSw);go_simp;try with_reducible rfl)
   try simp only [sxa,sxb,sxc,Act.put,sxd,sxe,sxf]
   refine wpAnyH_take (i:=2) (oi:=_) (v:=?vb2) rfl (by kernel_rfl) (by kernel_rfl) (by kernel_rfl) (fun _ _ _ h=>h) (Or.inl ⟨by rfl,?yb2⟩) (by assumption) ?rb2
   case yb2=>(intro w hSw;(try dsimp only at hSw);have hlk:=lookK textKinds wd hSw;rw [hK1] at hlk;go_simp;try with_reducible rfl)
   try simp only [sxa,sxb,sxc,Act.put,sxd,sxe,sxf]
   refine wpAnyH_take (i:=3) (oi:=_) (v:=?vb3) rfl (by kernel_rfl) (by kernel_rfl) (by kernel_rfl) (fun _ _ _ h=>h) (Or.inl ⟨by rfl,?yb3⟩) (by assumption) ?rb3
   case yb3=>(intro w hSw;(try dsimp only at hSw);go_simp;try with_reducible rfl)
   try simp only [sxa,sxb,sxc,Act.put,sxd,sxe,sxf]
   refine wpAnyH_ready (rs:=[4]) (by kernel_rfl) (by simp) ?_
   refine AllReadyH.cons (o:=_) rfl (fun K hK=>?_) AllReadyH.nil
   go_simp
   refine (hth _ R5.out.drew).mono ?_
   rintro e w6 ⟨o6,y6,rfl,rfl,r6⟩
   have D6:=Only.trans (Only.of (Below.refl m5.heap.size m5).drew (Nat.le_of_lt R5.out.lt)) o6
   have O6:=hid (O5.out.trans D6)
   have z6:=Z5.out.only D6 hdb
   have y0:=z6.c0
   have yf0:=z6.free 0
   have y1:=z6.c1
   have yf1:=z6.free 1
   have y2:=z6.c2
   have yf2:=z6.free 2
   have y3:=z6.c3
   have yf3:=z6.free 3
   have y4:=z6.c4
   have yf4:=z6.free 4
   have R6:=hid r6
   have X6:=hid o6
   clear r6 o6 z6 D6
   go_wp2_with fail
   refine hK.out _ _ ?hs1 (fun hHeld2=>?_)
   case hs1=>exact MapAt.only (w:=m5.drew) (show MapAt m5.drew w4.heap.size (kindV textKinds) from M1.out) X6.out n1
   clear hK K hHeld
   have hHeld:=hHeld2
   clear hHeld2
   try simp only [sxa,sxb,sxc,Act.put,sxd,sxe,sxf]
   refine wpAnyH_take (i:=5) (oi:=_) (v:=?vt1_5) rfl (by kernel_rfl) (by kernel_rfl) (by kernel_rfl) (fun _ _ _ h=>h) (Or.inl ⟨by rfl,?yt1_5⟩) (by assumption) ?rt1_5
   case yt1_5=>(intro w hSw;(try dsimp only at hSw);go_simp;try with_reducible rfl)
   try simp only [sxa,sxb,sxc,Act.put,sxd,sxe,sxf]
   refine wpAnyH_ready (rs:=[6]) (by kernel_rfl) (by simp) ?_
   refine AllReadyH.cons (o:=_) rfl (fun K hK=>?_) AllReadyH.nil
   go_simp
   refine hK.out _ _ ?hs2 (fun hHeld2=>?_)
   case hs2=>exact (MapAt.farK (MapAt.farK (MapAt.farK (MapAt.farK (MapAt.farK hHeld n3 _) n3 _) n3 _) n3 _) n3 _)
   clear hK K hHeld
   have hHeld:=hHeld2
   clear hHeld2
   try simp only [sxa,sxb,sxc,Act.put,sxd,sxe,sxf]
   refine wpAnyH_done (by kernel_rfl) ?_ _
   go_wp2_with fail
   refine bodyPost_ret (v:=.agg #[.int .i64 K1,.bool false,.string (str x6),.int .i64 0,.slice none 0 0]) (by first | (simp [results,Tryz.results66,go_sem,y0,y1,y2,y3,y4];done) | (simp [results,Tryz.results66,go_sem,y0,y1,y2,y3,y4];rfl)) rfl ?_
   exact Reads.give (x:={ kind:=K1,text:=x6 }) (t:=s6) (by rw [HR.out];rw [HQ2.out];rfl) (((((O6.out.setNew hblt (Nat.le_refl _) _).setNew hblt (Nat.le_refl _) _).setNew hblt (Nat.le_refl _) _).setNew hblt (Nat.le_refl _) _).setNew hblt (Nat.le_refl _) _) ⟨_,rfl,Sq.RBuf.nil (by have:=O6.out.size;simpa [World.setCell] using this)⟩ (((((R6.out.far hblt _).far hblt _).far hblt _).far hblt _).far hblt _)
set_option maxHeartbeats 8000000 in
theorem key_size (dp:Int) (b:Nat) (s:Bt) (w:World) (h:RdI w b s) (hh:headB s = false) (wd t1 nm:Bt) (un:Bool) (hw:Im.word s = (wd,t1)) (htk:takes [85,78] wd = (un,nm)) (hq:flagAt nm = none) (K1 K2:Int) (hK1:kindOf textKinds wd = K1) (hK2:kindOf sizeKinds wd = K2) (e1:(wd == [65,76,76]) = false) (e2:(wd == [78,79,84]) = false) (e3:(wd == [85,73,68]) = false) (hk1:K1 = 0) (hk:0 < K2) (R:Option (Ky × Bt)) (hR:R = (sign [32] t1).bind fun t=>(number 0 most t).map fun q=>({ kind:=K2,n:=q.1 },q.2)) :
  Calls Tryz.prog 66 #[.pointer (some ⟨b,0,none⟩),.int .i64 dp] w fun e w'=>Reads b w (vKey w.heap.size) R e w':=by
 subst hk1
 have hblt:=h.lt
 have HQ:=hid hq
 clear hq
 have hdb:w.heap.size ≠ b:=by omega
 have a1:Below w.heap.size w (w.alloc (.cells #[.int .i64 0,.bool false,.string ⟨#[]⟩,.int .i64 0,.slice none 0 0] 39)):=(Below.refl _ _).alloc (Nat.le_refl _) _
 have R1:=hid (h.below a1)
 have O1:=hid (Only.of a1 (Nat.le_of_lt hblt))
 have Z1:Hid (KyB (w.alloc (.cells #[.int .i64 0,.bool false,.string ⟨#[]⟩,.int .i64 0,.slice none 0 0] 39)) w.heap.size (.int .i64 0) (.bool false) (.string ⟨#[]⟩) (.int .i64 0) (.slice none 0 0)):=hid (heap_alloc_new w _)
 have HR:=hid hR
 have hmm:=@run_makeMap Tryz.prog
 have hmf:∀ (fn:Fn) (first cap:Array Value) (w:World),(Instr.makeFunc fn first cap).run Tryz.prog w = .ok (.func fn first cap) w:=fun _ _ _ _=>rfl
 have hwd:=fun W hW=>word_any b s W hW
 rw [hw] at hwd
 dsimp only at hwd
 have hcp:∀ W:World,Calls Tryz.prog 48 #[.string (str wd),.string (str [85,78])] W fun e w'=>e = .returned (.tuple #[.string (str nm),.bool un])∧w' = W:=fun W=>by
  refine (Tryz.strings_CutPrefix (str wd) (str [85,78]) W).mono ?_
  rintro e w' ⟨rfl,rfl⟩
  refine ⟨?_,rfl⟩
  have e1:(takes [85,78] wd).1 = un:=by rw [htk]
  have e2:(takes [85,78] wd).2 = nm:=by rw [htk]
  rw [← e1,← e2,takes_fst,← trim_drop]
  rfl
 clear hR h a1 hw htk
 have tok0:Tk 0:=⟨⟩
 go_enter Tryz.func66,Tryz.ntmps66
 go_upto_region 1 with fail
 go_cut [32] from 12 to 31 (fun v32 wx=>v32 = .bool false∧wx = (w.alloc (.cells #[.int .i64 0,.bool false,.string ⟨#[]⟩,.int .i64 0,.slice none 0 0] 39)))
 case first =>
  have hc0:=R1.out.c
  rcases s with _ | ⟨c,s'⟩
  · go_wp2_with fail
    go_meet
    exact ⟨rfl,rfl⟩
  · have hix:∀ h:0 < (str (c :: s')).size,(str (c :: s'))[0] = c:=fun h=>rfl
    have hz:=str_size (c :: s')
    have hdg:=fun W=>digit_any c W
    have h42:((c.toNat:Int) == 42) = decide (c = 42):=byte_eq c 42 (by decide)
    have hh2:(isDg c || decide (c = 42)) = false:=hh
    obtain ⟨D,hD⟩:∃ D,isDg c = D:=⟨_,rfl⟩
    obtain ⟨E,hE⟩:∃ E,decide (c = 42) = E:=⟨_,rfl⟩
    rw [hD] at hdg hh2
    rw [hE] at h42 hh2
    clear hD hE hh
    have DG:=hid hdg
    clear hdg
    cases D <;> cases E
    · go_wp2_with (go_at_call 89;refine (DG.out _).mono ?_;rintro e w9 ⟨rfl,rfl⟩)
      go_meet
      exact ⟨rfl,rfl⟩
    all_goals cases hh2
 case rest =>
  obtain ⟨rfl,rfl⟩:=hcut
  go_upto_region 25 with (first
   | (go_at_call 25;refine (hwd _ R1.out).mono ?_;rintro e w2 ⟨rfl,r2,o2⟩;have a2:=(Below.refl w2.heap.size w2).alloc (Nat.le_refl _) (.cells #[.string (str nm)] 9);have c2:=cells_at (heap_alloc_new w2 (.cells #[.string (str nm)] 9)) 0;have R2:=hid (r2.below a2);have O2:=hid (O1.out.trans (o2.trans (Only.of a2 (Nat.le_of_lt r2.lt))));have Z2:=hid ((Z1.out.only o2 hdb).below a2);clear r2 o2 a2)
   | (go_at_call 48;refine (hcp _).mono ?_;rintro e w9 ⟨rfl,he⟩;obtain rfl:=he.symm)
   | (go_at_call 41;refine (flags_any _).mono ?_;rintro e w3 ⟨g,rfl,g1,g2,g3,b3⟩;have R3:=hid (R2.out.below b3);have O3:=hid (O2.out.trans (Only.of b3 (Nat.le_of_lt R2.out.lt)));have Z3:=hid (Z2.out.below b3);have C3:=hid ((b3.cell (by simp)).trans c2);have G3:=hid g3;clear b3 g3)
   | (go_at_call 101;have hx:=idxf_any 102 w2.heap.size nm (enters_of Tryz.func102 (by kernel_rfl) rfl) (fun s W h1 h2=>keyC_any s _ _ W h1 h2) g w3 G3.out C3.out;rw [HQ.out,idxN] at hx;refine hx.mono ?_;clear hx;rintro e w4 ⟨rfl,b4⟩;have R4:=hid (R3.out.below b4);have O4:=hid (O3.out.trans (Only.of b4 (Nat.le_of_lt R3.out.lt)));have z4:=Z3.out.below b4;have y0:=z4.c0;have yf0:=z4.free 0;have y1:=z4.c1;have yf1:=z4.free 1;have y2:=z4.c2;have yf2:=z4.free 2;have y3:=z4.c3;have yf3:=z4.free 3;have y4:=z4.c4;have yf4:=z4.free 4;have Z4:=hid z4;clear b4 z4)
   | (have t_:Tk 0:=‹Tk 0›;refine wpList_putIn w4 _ rfl _ _ _ rfl Tryz.underlying100 Tryz.underlying9 _ _ rfl (MapIn.new' w4) _ rfl _ rfl (by rfl) ?_;intro m1 p1;clear t_ tok0;have tok1:Tk 1:=⟨⟩)
   | (have t_:Tk 1:=‹Tk 1›;refine wpList_putIn w4 _ rfl _ _ _ rfl Tryz.underlying100 Tryz.underlying9 _ _ rfl p1 _ rfl _ rfl (by rfl) ?_;intro m2 p2;clear t_ tok1;have tok2:Tk 2:=⟨⟩)
   | (have t_:Tk 2:=‹Tk 2›;refine wpList_putIn w4 _ rfl _ _ _ rfl Tryz.underlying100 Tryz.underlying9 _ _ rfl p2 _ rfl _ rfl (by rfl) ?_;intro m3 p3;clear t_ tok2;have tok3:Tk 3:=⟨⟩)
   | (have t_:Tk 3:=‹Tk 3›;refine wpList_putIn m3 _ rfl _ _ _ rfl Tryz.underlying100 Tryz.underlying9 _ _ rfl (MapIn.new' m3) _ rfl _ rfl (by rfl) ?_;intro m4 p4;clear t_ tok3;have tok4:Tk 4:=⟨⟩)
   | (have t_:Tk 4:=‹Tk 4›;refine wpList_putIn m3 _ rfl _ _ _ rfl Tryz.underlying100 Tryz.underlying9 _ _ rfl p4 _ rfl _ rfl (by rfl) ?_;intro m5 p5;clear t_ tok4;have tok5:Tk 5:=⟨⟩;have M1:=hid ((show MapAt m3 w4.heap.size (kindV textKinds) from p3.map).below p5.low);have M2:=hid (show MapAt m5 m3.heap.size (kindV sizeKinds) from p5.map);have l5:=below_then p3.low p5.low;have n1:w4.heap.size ≠ b:=(by have:=R4.out.lt;omega);have n2:m3.heap.size ≠ b:=(by have:=R4.out.lt;have:=p3.low.size;omega);have n3:w4.heap.size ≠ w.heap.size:=(by have:=Z4.out.lt;omega);have n4:m3.heap.size ≠ w.heap.size:=(by have:=Z4.out.lt;have:=p3.low.size;omega);have hlk1:=lookK textKinds wd M1.out;have hlk2:=lookK sizeKinds wd M2.out;rw [hK1] at hlk1;rw [hK2] at hlk2;have R5:=hid (R4.out.below l5);have O5:=hid (O4.out.trans (Only.of l5 (Nat.le_of_lt R4.out.lt)));have z5:=Z4.out.below l5;have y0:=z5.c0;have yf0:=z5.free 0;have y1:=z5.c1;have yf1:=z5.free 1;have y2:=z5.c2;have yf2:=z5.free 2;have y3:=z5.c3;have yf3:=z5.free 3;have y4:=z5.c4;have yf4:=z5.free 4;have Z5:=hid z5;clear z5 l5)
   | (go_at_call 28;refine (must_t _).mono ?_;rintro e w9 ⟨rfl,he⟩;obtain rfl:=he.symm)
   | (go_at_call 53;refine (sign_any b t1 [32] _ R5.out).mono ?_;intro e w6 h6;rcases sign_cases h6 with ⟨q6,rfl,o6⟩ | ⟨s6,q6,rfl,r6,o6⟩ <;> (first | (have O6:=hid (O5.out.trans o6);have z6:=Z5.out.only o6 hdb;have y0:=z6.c0;have yf0:=z6.free 0;have y1:=z6.c1;have yf1:=z6.free 1;have y2:=z6.c2;have yf2:=z6.free 2;have y3:=z6.c3;have yf3:=z6.free 3;have y4:=z6.c4;have yf4:=z6.free 4;have Z6:=hid z6;have Y6:=hid o6;have Q6:=hid q6;have R6:=hid r6;clear o6 q6 r6 h6 z6) | (have O6:=hid (O5.out.trans o6);have Q6:=hid q6;clear o6 q6 h6))))
  · exact ⟨rfl,Reads.panic (by rw [HR.out];simp [Q6.out]) O6.out⟩
  have hnb:=fun W hW=>num_any b s6 0 4294967295 W hW
  obtain ⟨q,hq⟩:∃ q,number 0 4294967295 s6 = q:=⟨_,rfl⟩
  rw [hq] at hnb
  have HQ2:=hid hq
  clear hq
  have M6:=hid (M2.out.only Y6.out n2)
  refine wp_region_held_drew (S:=fun w'=>MapAt w' m3.heap.size (kindV sizeKinds)) (by kernel_rfl) M6.out (fun hHeld=>?_)
  cases q with
  | none =>
   refine wpAnyH_take (i:=0) (oi:=_) (v:=?va0) rfl (by kernel_rfl) (by kernel_rfl) (by kernel_rfl) (fun _ _ _ h=>h) (Or.inl ⟨by rfl,?ya0⟩) (by assumption) ?ra0
   case ya0=>(intro w hSw;(try dsimp only at hSw);go_simp;try with_reducible rfl)
   try simp only [sxa,sxb,sxc,Act.put,sxd,sxe,sxf]
   refine wpAnyH_take (i:=1) (oi:=_) (v:=?va1) rfl (by kernel_rfl) (by kernel_rfl) (by kernel_rfl) (fun _ _ _ h=>h) (Or.inl ⟨by rfl,?ya1⟩) (by assumption) ?ra1
   case ya1=>(intro w hSw;(try dsimp only at hSw);go_simp;try with_reducible rfl)
   try simp only [sxa,sxb,sxc,Act.put,sxd,sxe,sxf]
   refine wpAnyH_take (i:=2) (oi:=_) (v:=?va2) rfl (by kernel_rfl) (by kernel_rfl) (by kernel_rfl) (fun _ _ _ h=>h) (Or.inl ⟨by rfl,?ya2⟩) (by assumption) ?ra2
   case ya2=>(intro w hSw;(try dsimp only at hSw);have hlk:=lookK sizeKinds wd hSw;rw [hK2] at hlk;go_simp;try with_reducible rfl)
   try simp only [sxa,sxb,sxc,Act.put,sxd,sxe,sxf]
   refine wpAnyH_take (i:=3) (oi:=_) (v:=?va3) rfl (by kernel_rfl) (by kernel_rfl) (by kernel_rfl) (fun _ _ _ h=>h) (Or.inl ⟨by rfl,?ya3⟩) (by assumption) ?ra3
   case ya3=>(intro w hSw;(try dsimp only at hSw);go_simp;try with_reducible rfl)
   try simp only [sxa,sxb,sxc,Act.put,sxd,sxe,sxf]
   refine wpAnyH_ready (rs:=[4]) (by kernel_rfl) (by simp) ?_
   refine AllReadyH.cons (o:=_) rfl (fun K hK=>?_) AllReadyH.nil
   go_simp
   refine (hnb _ R6.out.drew).mono ?_
   rintro e w7 ⟨o7,rfl⟩
   exact ⟨rfl,Reads.panic (by rw [HR.out,Q6.out,Option.bind_some,show most = 4294967295 from rfl,HQ2.out];rfl) (O6.out.trans (Only.trans (Only.of (Below.refl _ _).drew (Nat.le_of_lt R6.out.lt)) o7))⟩
  | some q =>
   obtain ⟨x7,s7⟩:=q
   refine wpAnyH_take (i:=0) (oi:=_) (v:=?vb0) rfl (by kernel_rfl) (by kernel_rfl) (by kernel_rfl) (fun _ _ _ h=>h) (Or.inl ⟨by rfl,?yb0⟩) (by assumption) ?rb0
   case yb0=>(intro w hSw;(try dsimp only at hSw);go_simp;try with_reducible rfl)
   try simp only [sxa,sxb,sxc,Act.put,sxd,sxe,sxf]
   refine wpAnyH_take (i:=1) (oi:=_) (v:=?vb1) rfl (by kernel_rfl) (by kernel_rfl) (by kernel_rfl) (fun _ _ _ h=>h) (Or.inl ⟨by rfl,?yb1⟩) (by assumption) ?rb1
   case yb1=>(intro w hSw;(try dsimp only at hSw);go_simp;try with_reducible rfl)
   try simp only [sxa,sxb,sxc,Act.put,sxd,sxe,sxf]
   refine wpAnyH_take (i:=2) (oi:=_) (v:=?vb2) rfl (by kernel_rfl) (by kernel_rfl) (by kernel_rfl) (fun _ _ _ h=>h) (Or.inl ⟨by rfl,?yb2⟩) (by assumption) ?rb2
   case yb2=>(intro w hSw;(try dsimp only at hSw);have hlk:=lookK sizeKinds wd hSw;rw [hK2] at hlk;go_simp;try with_reducible rfl)
   try simp only [sxa,sxb,sxc,Act.put,sxd,sxe,sxf]
   refine wpAnyH_take (i:=3) (oi:=_) (v:=?vb3) rfl (by kernel_rfl) (by kernel_rfl) (by kernel_rfl) (fun _ _ _ h=>h) (Or.inl ⟨by rfl,?yb3⟩) (by assumption) ?rb3
   case yb3=>(intro w hSw;(try dsimp only at hSw);go_simp;try with_reducible rfl)
   try simp only [sxa,sxb,sxc,Act.put,sxd,sxe,sxf]
   refine wpAnyH_ready (rs:=[4]) (by kernel_rfl) (by simp) ?_
   refine AllReadyH.cons (o:=_) rfl (fun K hK=>?_) AllReadyH.nil
   go_simp
   refine (hnb _ R6.out.drew).mono ?_
   rintro e w7 ⟨o7,y7,rfl,rfl,r7⟩
   have D7:=Only.trans (Only.of (Below.refl w6.heap.size w6).drew (Nat.le_of_lt R6.out.lt)) o7
   have O7:=hid (O6.out.trans D7)
   have z7:=Z6.out.only D7 hdb
   have y0:=z7.c0
   have yf0:=z7.free 0
   have y1:=z7.c1
   have yf1:=z7.free 1
   have y2:=z7.c2
   have yf2:=z7.free 2
   have y3:=z7.c3
   have yf3:=z7.free 3
   have y4:=z7.c4
   have yf4:=z7.free 4
   have R7:=hid r7
   have X7:=hid o7
   clear r7 o7 z7 D7
   go_wp2_with fail
   refine hK.out _ _ ?hs1 (fun hHeld2=>?_)
   case hs1=>exact MapAt.only (w:=w6.drew) (show MapAt w6.drew m3.heap.size (kindV sizeKinds) from M6.out) X7.out n2
   clear hK K hHeld
   have hHeld:=hHeld2
   clear hHeld2
   try simp only [sxa,sxb,sxc,Act.put,sxd,sxe,sxf]
   refine wpAnyH_take (i:=5) (oi:=_) (v:=?vt1_5) rfl (by kernel_rfl) (by kernel_rfl) (by kernel_rfl) (fun _ _ _ h=>h) (Or.inl ⟨by rfl,?yt1_5⟩) (by assumption) ?rt1_5
   case yt1_5=>(intro w hSw;(try dsimp only at hSw);go_simp;try with_reducible rfl)
   try simp only [sxa,sxb,sxc,Act.put,sxd,sxe,sxf]
   refine wpAnyH_ready (rs:=[6]) (by kernel_rfl) (by simp) ?_
   refine AllReadyH.cons (o:=_) rfl (fun K hK=>?_) AllReadyH.nil
   go_simp
   refine hK.out _ _ ?hs2 (fun hHeld2=>?_)
   case hs2=>exact (MapAt.farK (MapAt.farK (MapAt.farK (MapAt.farK (MapAt.farK hHeld n4 _) n4 _) n4 _) n4 _) n4 _)
   clear hK K hHeld
   have hHeld:=hHeld2
   clear hHeld2
   try simp only [sxa,sxb,sxc,Act.put,sxd,sxe,sxf]
   refine wpAnyH_done (by kernel_rfl) ?_ _
   go_wp2_with fail
   refine bodyPost_ret (v:=.agg #[.int .i64 K2,.bool false,.string (str []),.int .i64 x7,.slice none 0 0]) (by first | (simp [results,Tryz.results66,go_sem,y0,y1,y2,y3,y4];done) | (simp [results,Tryz.results66,go_sem,y0,y1,y2,y3,y4];rfl)) rfl ?_
   exact Reads.give (x:={ kind:=K2,n:=x7 }) (t:=s7) (by rw [HR.out];rw [Q6.out,Option.bind_some,show most = 4294967295 from rfl,HQ2.out];rfl) (((((O7.out.setNew hblt (Nat.le_refl _) _).setNew hblt (Nat.le_refl _) _).setNew hblt (Nat.le_refl _) _).setNew hblt (Nat.le_refl _) _).setNew hblt (Nat.le_refl _) _) ⟨_,rfl,Sq.RBuf.nil (by have:=O7.out.size;simpa [World.setCell] using this)⟩ (((((R7.out.far hblt _).far hblt _).far hblt _).far hblt _).far hblt _)
set_option maxHeartbeats 8000000 in
theorem key_bad (dp:Int) (b:Nat) (s:Bt) (w:World) (h:RdI w b s) (hh:headB s = false) (wd t1 nm:Bt) (un:Bool) (hw:Im.word s = (wd,t1)) (htk:takes [85,78] wd = (un,nm)) (hq:flagAt nm = none) (K1 K2:Int) (hK1:kindOf textKinds wd = K1) (hK2:kindOf sizeKinds wd = K2) (e1:(wd == [65,76,76]) = false) (e2:(wd == [78,79,84]) = false) (e3:(wd == [85,73,68]) = false) (hk1:K1 = 0) (hk2:K2 = 0) (R:Option (Ky × Bt)) (hR:R = none) :
  Calls Tryz.prog 66 #[.pointer (some ⟨b,0,none⟩),.int .i64 dp] w fun e w'=>Reads b w (vKey w.heap.size) R e w':=by
 subst hk1 hk2
 have hblt:=h.lt
 have HQ:=hid hq
 clear hq
 have hdb:w.heap.size ≠ b:=by omega
 have a1:Below w.heap.size w (w.alloc (.cells #[.int .i64 0,.bool false,.string ⟨#[]⟩,.int .i64 0,.slice none 0 0] 39)):=(Below.refl _ _).alloc (Nat.le_refl _) _
 have R1:=hid (h.below a1)
 have O1:=hid (Only.of a1 (Nat.le_of_lt hblt))
 have Z1:Hid (KyB (w.alloc (.cells #[.int .i64 0,.bool false,.string ⟨#[]⟩,.int .i64 0,.slice none 0 0] 39)) w.heap.size (.int .i64 0) (.bool false) (.string ⟨#[]⟩) (.int .i64 0) (.slice none 0 0)):=hid (heap_alloc_new w _)
 have HR:=hid hR
 have hmm:=@run_makeMap Tryz.prog
 have hmf:∀ (fn:Fn) (first cap:Array Value) (w:World),(Instr.makeFunc fn first cap).run Tryz.prog w = .ok (.func fn first cap) w:=fun _ _ _ _=>rfl
 have hwd:=fun W hW=>word_any b s W hW
 rw [hw] at hwd
 dsimp only at hwd
 have hcp:∀ W:World,Calls Tryz.prog 48 #[.string (str wd),.string (str [85,78])] W fun e w'=>e = .returned (.tuple #[.string (str nm),.bool un])∧w' = W:=fun W=>by
  refine (Tryz.strings_CutPrefix (str wd) (str [85,78]) W).mono ?_
  rintro e w' ⟨rfl,rfl⟩
  refine ⟨?_,rfl⟩
  have e1:(takes [85,78] wd).1 = un:=by rw [htk]
  have e2:(takes [85,78] wd).2 = nm:=by rw [htk]
  rw [← e1,← e2,takes_fst,← trim_drop]
  rfl
 clear hR h a1 hw htk
 have tok0:Tk 0:=⟨⟩
 go_enter Tryz.func66,Tryz.ntmps66
 go_upto_region 1 with fail
 go_cut [32] from 12 to 31 (fun v32 wx=>v32 = .bool false∧wx = (w.alloc (.cells #[.int .i64 0,.bool false,.string ⟨#[]⟩,.int .i64 0,.slice none 0 0] 39)))
 case first =>
  have hc0:=R1.out.c
  rcases s with _ | ⟨c,s'⟩
  · go_wp2_with fail
    go_meet
    exact ⟨rfl,rfl⟩
  · have hix:∀ h:0 < (str (c :: s')).size,(str (c :: s'))[0] = c:=fun h=>rfl
    have hz:=str_size (c :: s')
    have hdg:=fun W=>digit_any c W
    have h42:((c.toNat:Int) == 42) = decide (c = 42):=byte_eq c 42 (by decide)
    have hh2:(isDg c || decide (c = 42)) = false:=hh
    obtain ⟨D,hD⟩:∃ D,isDg c = D:=⟨_,rfl⟩
    obtain ⟨E,hE⟩:∃ E,decide (c = 42) = E:=⟨_,rfl⟩
    rw [hD] at hdg hh2
    rw [hE] at h42 hh2
    clear hD hE hh
    have DG:=hid hdg
    clear hdg
    cases D <;> cases E
    · go_wp2_with (go_at_call 89;refine (DG.out _).mono ?_;rintro e w9 ⟨rfl,rfl⟩)
      go_meet
      exact ⟨rfl,rfl⟩
    all_goals cases hh2
 case rest =>
  obtain ⟨rfl,rfl⟩:=hcut
  go_wp2_with (first
   | (go_at_call 25;refine (hwd _ R1.out).mono ?_;rintro e w2 ⟨rfl,r2,o2⟩;have a2:=(Below.refl w2.heap.size w2).alloc (Nat.le_refl _) (.cells #[.string (str nm)] 9);have c2:=cells_at (heap_alloc_new w2 (.cells #[.string (str nm)] 9)) 0;have R2:=hid (r2.below a2);have O2:=hid (O1.out.trans (o2.trans (Only.of a2 (Nat.le_of_lt r2.lt))));have Z2:=hid ((Z1.out.only o2 hdb).below a2);clear r2 o2 a2)
   | (go_at_call 48;refine (hcp _).mono ?_;rintro e w9 ⟨rfl,he⟩;obtain rfl:=he.symm)
   | (go_at_call 41;refine (flags_any _).mono ?_;rintro e w3 ⟨g,rfl,g1,g2,g3,b3⟩;have R3:=hid (R2.out.below b3);have O3:=hid (O2.out.trans (Only.of b3 (Nat.le_of_lt R2.out.lt)));have Z3:=hid (Z2.out.below b3);have C3:=hid ((b3.cell (by simp)).trans c2);have G3:=hid g3;clear b3 g3)
   | (go_at_call 101;have hx:=idxf_any 102 w2.heap.size nm (enters_of Tryz.func102 (by kernel_rfl) rfl) (fun s W h1 h2=>keyC_any s _ _ W h1 h2) g w3 G3.out C3.out;rw [HQ.out,idxN] at hx;refine hx.mono ?_;clear hx;rintro e w4 ⟨rfl,b4⟩;have R4:=hid (R3.out.below b4);have O4:=hid (O3.out.trans (Only.of b4 (Nat.le_of_lt R3.out.lt)));have z4:=Z3.out.below b4;have y0:=z4.c0;have yf0:=z4.free 0;have y1:=z4.c1;have yf1:=z4.free 1;have y2:=z4.c2;have yf2:=z4.free 2;have y3:=z4.c3;have yf3:=z4.free 3;have y4:=z4.c4;have yf4:=z4.free 4;have Z4:=hid z4;clear b4 z4)
   | (have t_:Tk 0:=‹Tk 0›;refine wpList_putIn w4 _ rfl _ _ _ rfl Tryz.underlying100 Tryz.underlying9 _ _ rfl (MapIn.new' w4) _ rfl _ rfl (by rfl) ?_;intro m1 p1;clear t_ tok0;have tok1:Tk 1:=⟨⟩)
   | (have t_:Tk 1:=‹Tk 1›;refine wpList_putIn w4 _ rfl _ _ _ rfl Tryz.underlying100 Tryz.underlying9 _ _ rfl p1 _ rfl _ rfl (by rfl) ?_;intro m2 p2;clear t_ tok1;have tok2:Tk 2:=⟨⟩)
   | (have t_:Tk 2:=‹Tk 2›;refine wpList_putIn w4 _ rfl _ _ _ rfl Tryz.underlying100 Tryz.underlying9 _ _ rfl p2 _ rfl _ rfl (by rfl) ?_;intro m3 p3;clear t_ tok2;have tok3:Tk 3:=⟨⟩)
   | (have t_:Tk 3:=‹Tk 3›;refine wpList_putIn m3 _ rfl _ _ _ rfl Tryz.underlying100 Tryz.underlying9 _ _ rfl (MapIn.new' m3) _ rfl _ rfl (by rfl) ?_;intro m4 p4;clear t_ tok3;have tok4:Tk 4:=⟨⟩)
   | (have t_:Tk 4:=‹Tk 4›;refine wpList_putIn m3 _ rfl _ _ _ rfl Tryz.underlying100 Tryz.underlying9 _ _ rfl p4 _ rfl _ rfl (by rfl) ?_;intro m5 p5;clear t_ tok4;have tok5:Tk 5:=⟨⟩;have M1:=hid ((show MapAt m3 w4.heap.size (kindV textKinds) from p3.map).below p5.low);have M2:=hid (show MapAt m5 m3.heap.size (kindV sizeKinds) from p5.map);have l5:=below_then p3.low p5.low;have n1:w4.heap.size ≠ b:=(by have:=R4.out.lt;omega);have n2:m3.heap.size ≠ b:=(by have:=R4.out.lt;have:=p3.low.size;omega);have n3:w4.heap.size ≠ w.heap.size:=(by have:=Z4.out.lt;omega);have n4:m3.heap.size ≠ w.heap.size:=(by have:=Z4.out.lt;have:=p3.low.size;omega);have hlk1:=lookK textKinds wd M1.out;have hlk2:=lookK sizeKinds wd M2.out;rw [hK1] at hlk1;rw [hK2] at hlk2;have R5:=hid (R4.out.below l5);have O5:=hid (O4.out.trans (Only.of l5 (Nat.le_of_lt R4.out.lt)));have z5:=Z4.out.below l5;have y0:=z5.c0;have yf0:=z5.free 0;have y1:=z5.c1;have yf1:=z5.free 1;have y2:=z5.c2;have yf2:=z5.free 2;have y3:=z5.c3;have yf3:=z5.free 3;have y4:=z5.c4;have yf4:=z5.free 4;have Z5:=hid z5;clear z5 l5)
   | (go_at_call 28;refine (must_f _).mono ?_;rintro e w9 ⟨rfl,he⟩;obtain rfl:=he.symm))
  exact ⟨rfl,Reads.panic HR.out O5.out⟩
end Go.Proofs.YtfdmdmahddjjmaaGreatDoor
