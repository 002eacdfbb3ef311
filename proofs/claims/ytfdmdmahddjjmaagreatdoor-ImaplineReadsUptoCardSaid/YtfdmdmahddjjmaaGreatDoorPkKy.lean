/-
  Joined texts: ImKa ImKb ImKc.
-/
import Derived.Test.YtfdmdmahddjjmaaGreatDoorPkIm3
import Derived.Deep.CutBlock
import Derived.Deep.DeepCutAuto
import Derived.Test.YtfdmdmahddjjmaaGreatDoorPkOwn
import Derived.Deep.RegionHeld3
set_option linter.unusedVariables false
set_option linter.unusedSimpArgs false
set_option maxRecDepth 100000
namespace Go.Proofs.YtfdmdmahddjjmaaGreatDoor
open Go.RowKit Own Im
attribute [local go_sem] str_toList str_size
def KyB (w:World) (c:Nat) (a0 a1 a2 a3 a4:Value):Prop:=w.heap[c]? = some (.cells #[a0,a1,a2,a3,a4] 39 (0,0))
section
variable {w w':World} {c:Nat} {a0 a1 a2 a3 a4:Value}
theorem KyB.c0 (h:KyB w c a0 a1 a2 a3 a4):w.cell? ⟨c,0,none⟩ = some a0:=by rw [cells_at h];rfl
theorem KyB.c1 (h:KyB w c a0 a1 a2 a3 a4):w.cell? ⟨c,1,none⟩ = some a1:=by rw [cells_at h];rfl
theorem KyB.c2 (h:KyB w c a0 a1 a2 a3 a4):w.cell? ⟨c,2,none⟩ = some a2:=by rw [cells_at h];rfl
theorem KyB.c3 (h:KyB w c a0 a1 a2 a3 a4):w.cell? ⟨c,3,none⟩ = some a3:=by rw [cells_at h];rfl
theorem KyB.c4 (h:KyB w c a0 a1 a2 a3 a4):w.cell? ⟨c,4,none⟩ = some a4:=by rw [cells_at h];rfl
theorem KyB.free (h:KyB w c a0 a1 a2 a3 a4) (j:Nat):w.frozen? ⟨c,j,none⟩ = false:=by unfold World.frozen?;rw [h];simp
theorem KyB.lt (h:KyB w c a0 a1 a2 a3 a4):c < w.heap.size:=lt_of_block h
theorem KyB.below (h:KyB w c a0 a1 a2 a3 a4) (hb:Below w.heap.size w w'):KyB w' c a0 a1 a2 a3 a4:=(hb.block c h.lt).trans h
theorem KyB.only {b:Nat} (h:KyB w c a0 a1 a2 a3 a4) (ho:Only b w w') (hcb:c ≠ b):KyB w' c a0 a1 a2 a3 a4:=(ho.block hcb h.lt).trans h
theorem KyB.far {d j:Nat} (h:KyB w c a0 a1 a2 a3 a4) (hd:c ≠ d) (y:Value):KyB (w.setCell ⟨d,j,none⟩ y) c a0 a1 a2 a3 a4:=(Below.heap_setCell w ⟨d,j,none⟩ y c hd).trans h
end
theorem MapAt.of_block {w w':World} {m:Nat} {l:List (Bt × Value)} (h:MapAt w m l) (hb:w'.heap[m]? = w.heap[m]?):MapAt w' m l:=by
 obtain ⟨es,n,h1,h2⟩:=h
 exact ⟨es,n,hb.trans h1,h2⟩
theorem MapAt.only {b m:Nat} {w w':World} {l:List (Bt × Value)} (h:MapAt w m l) (ho:Only b w w') (hm:m ≠ b):MapAt w' m l:=h.of_block (ho.block hm h.lt)
theorem MapAt.farK {m d j:Nat} {w:World} {l:List (Bt × Value)} (h:MapAt w m l) (hm:m ≠ d) (y:Value):MapAt (w.setCell ⟨d,j,none⟩ y) m l:=h.of_block (Below.heap_setCell w ⟨d,j,none⟩ y m hm)
def keyW (nx:Option (Rd Ky)) (wd t:Bt):Option (Ky × Bt) :=
 match flagAt (takes [85,78] wd).2 with
 | some i=>some ({ kind:=2,n:=((2 ^ i:Nat):Int),not:=(takes [85,78] wd).1 },t)
 | none =>
  if wd = [65,76,76] then some ({ kind:=1 },t) else
  if wd = [78,79,84] then (match nx with
   | none=>none
   | some f=>(sign [32] t).bind fun s=>(f s).map fun q=>({ q.1 with not:=!q.1.not },q.2)) else
  if wd = [85,73,68] then (sign [32] t).bind fun s=>(Im.set s).map fun q=>({ kind:=7,set:=q.1 },q.2) else
  if 0 < kindOf textKinds wd then (then_ t).map fun q=>({ kind:=kindOf textKinds wd,text:=q.1 },q.2) else
  if 0 < kindOf sizeKinds wd then (sign [32] t).bind fun t=>(number 0 most t).map fun q=>({ kind:=kindOf sizeKinds wd,n:=q.1 },q.2) else none
def headB (s:Bt):Bool:=s.head?.any fun c=>isDg c || decide (c = 42)
def keyS (s:Bt):Option (Ky × Bt):=(Im.set s).map fun q=>({ kind:=8,set:=q.1 },q.2)
theorem takes_un (wd:Bt):(takes [85,78] wd) = (Lib.hasPrefix wd [85,78],if Lib.hasPrefix wd [85,78] = true then wd.drop 2 else wd):=by
 unfold takes
 cases Lib.hasPrefix wd [85,78] <;> rfl
theorem key_eq0 (s:Bt):Im.key 0 s = if headB s = true then keyS s else keyW none (Im.word s).1 (Im.word s).2:=by
 rw [Im.key.eq_def]
 unfold keyW
 rw [takes_un]
 rfl
theorem key_eq (d:Nat) (s:Bt):Im.key (d + 1) s = if headB s = true then keyS s else keyW (some (Im.key d)) (Im.word s).1 (Im.word s).2:=by
 rw [Im.key.eq_def]
 unfold keyW
 rw [takes_un]
 rfl
theorem kind_pos {l:List (Bt × Int)} (hall:∀ p ∈ l,0 ≤ p.2) (x:Bt):0 ≤ kindOf l x:=by
 unfold kindOf
 cases h:l.find? fun p=>p.1 == x with
 | none=>decide
 | some p =>
  have:=List.mem_of_find?_eq_some h
  exact hall p this
end Go.Proofs.YtfdmdmahddjjmaaGreatDoor
namespace Go.Proofs.YtfdmdmahddjjmaaGreatDoor
open Go.RowKit Own Im
attribute [local go_sem] str_toList str_size
set_option maxHeartbeats 8000000 in
theorem key_set (dp:Int) (b:Nat) (s:Bt) (w:World) (h:RdI w b s) (hh:headB s = true)  (R:Option (Ky × Bt)) (hR:R = keyS s) :
  Calls Tryz.prog 66 #[.pointer (some ⟨b,0,none⟩),.int .i64 dp] w fun e w'=>Reads b w (vKey w.heap.size) R e w':=by
 have hblt:=h.lt
 have hdb:w.heap.size ≠ b:=by omega
 have a1:Below w.heap.size w (w.alloc (.cells #[.int .i64 0,.bool false,.string ⟨#[]⟩,.int .i64 0,.slice none 0 0] 39)):=(Below.refl _ _).alloc (Nat.le_refl _) _
 have R1:=hid (h.below a1)
 have O1:=hid (Only.of a1 (Nat.le_of_lt hblt))
 have Z1:Hid (KyB (w.alloc (.cells #[.int .i64 0,.bool false,.string ⟨#[]⟩,.int .i64 0,.slice none 0 0] 39)) w.heap.size (.int .i64 0) (.bool false) (.string ⟨#[]⟩) (.int .i64 0) (.slice none 0 0)):=hid (heap_alloc_new w _)
 have HR:=hid hR
 clear hR h a1
 have tok0:Tk 0:=⟨⟩
 go_enter Tryz.func66,Tryz.ntmps66
 go_upto_region 1 with fail
 go_cut [32] from 12 to 31 (fun v32 wx=>v32 = .bool true∧wx = (w.alloc (.cells #[.int .i64 0,.bool false,.string ⟨#[]⟩,.int .i64 0,.slice none 0 0] 39)))
 case first =>
  have hc0:=R1.out.c
  rcases s with _ | ⟨c,s'⟩
  · cases hh
  · have hix:∀ h:0 < (str (c :: s')).size,(str (c :: s'))[0] = c:=fun h=>rfl
    have hz:=str_size (c :: s')
    have hdg:=fun W=>digit_any c W
    have h42:((c.toNat:Int) == 42) = decide (c = 42):=byte_eq c 42 (by decide)
    have hh2:(isDg c || decide (c = 42)) = true:=hh
    obtain ⟨D,hD⟩:∃ D,isDg c = D:=⟨_,rfl⟩
    obtain ⟨E,hE⟩:∃ E,decide (c = 42) = E:=⟨_,rfl⟩
    rw [hD] at hdg hh2
    rw [hE] at h42 hh2
    clear hD hE hh
    have DG:=hid hdg
    clear hdg
    cases D <;> cases E
    · cases hh2
    all_goals
     go_wp2_with (go_at_call 89;refine (DG.out _).mono ?_;rintro e w9 ⟨rfl,rfl⟩)
     go_meet
     exact ⟨rfl,rfl⟩
 case rest =>
  obtain ⟨rfl,rfl⟩:=hcut
  go_wp2_with (first
   | (go_at_call 62;refine (set_any b s _ R1.out).mono ?_;intro e w2 h2;rcases h2.cases with ⟨q2,rfl,o2⟩ | ⟨x2,s2,v2,q2,rfl,n2,r2,o2⟩ <;> (first | (obtain ⟨A2,c2,rfl,-,-⟩:=n2.full;have hd2:=Z1.out.lt;have N2:=hid n2;have O2:=hid (O1.out.trans o2);have z2:=Z1.out.only o2 hdb;have y0:=z2.c0;have yf0:=z2.free 0;have y1:=z2.c1;have yf1:=z2.free 1;have y2:=z2.c2;have yf2:=z2.free 2;have y3:=z2.c3;have yf3:=z2.free 3;have y4:=z2.c4;have yf4:=z2.free 4;have Q2:=hid q2;have R2:=hid r2;clear q2 o2 n2 r2 z2 h2) | (have O2:=hid (O1.out.trans o2);have Q2:=hid q2;clear q2 o2 h2))))
  · exact ⟨rfl,Reads.panic (by rw [HR.out];simp [keyS,Q2.out]) O2.out⟩
  · refine bodyPost_ret (v:=.agg #[.int .i64 8,.bool false,.string (str []),.int .i64 0,.slice A2 x2.length c2]) (by first | (simp [results,Tryz.results66,go_sem,y0,y1,y2,y3,y4];done) | (simp [results,Tryz.results66,go_sem,y0,y1,y2,y3,y4];rfl)) rfl ?_
    exact Reads.give (x:={ kind:=8,set:=x2 }) (t:=s2) (by rw [HR.out];simp [keyS,Q2.out]) (((((O2.out.setNew hblt (Nat.le_refl _) _).setNew hblt (Nat.le_refl _) _).setNew hblt (Nat.le_refl _) _).setNew hblt (Nat.le_refl _) _).setNew hblt (Nat.le_refl _) _) ⟨_,rfl,((((((N2.out.stays ((setStays _ _ _ _).mono hd2)).stays ((setStays _ _ _ _).mono hd2)).stays ((setStays _ _ _ _).mono hd2)).stays ((setStays _ _ _ _).mono hd2)).stays ((setStays _ _ _ _).mono hd2)).mono (Nat.le_of_lt hd2))⟩ (((((R2.out.far hblt _).far hblt _).far hblt _).far hblt _).far hblt _)
set_option maxHeartbeats 8000000 in
theorem key_flag (dp:Int) (b:Nat) (s:Bt) (w:World) (h:RdI w b s) (hh:headB s = false) (wd t1 nm:Bt) (un:Bool) (hw:Im.word s = (wd,t1)) (htk:takes [85,78] wd = (un,nm)) (i:Nat) (hq:flagAt nm = some i) (R:Option (Ky × Bt)) (hR:R = some ({ kind:=2,n:=((2 ^ i:Nat):Int),not:=un },t1)) :
  Calls Tryz.prog 66 #[.pointer (some ⟨b,0,none⟩),.int .i64 dp] w fun e w'=>Reads b w (vKey w.heap.size) R e w':=by
 have hblt:=h.lt
 have HQ:=hid hq
 have hdb:w.heap.size ≠ b:=by omega
 have a1:Below w.heap.size w (w.alloc (.cells #[.int .i64 0,.bool false,.string ⟨#[]⟩,.int .i64 0,.slice none 0 0] 39)):=(Below.refl _ _).alloc (Nat.le_refl _) _
 have R1:=hid (h.below a1)
 have O1:=hid (Only.of a1 (Nat.le_of_lt hblt))
 have Z1:Hid (KyB (w.alloc (.cells #[.int .i64 0,.bool false,.string ⟨#[]⟩,.int .i64 0,.slice none 0 0] 39)) w.heap.size (.int .i64 0) (.bool false) (.string ⟨#[]⟩) (.int .i64 0) (.slice none 0 0)):=hid (heap_alloc_new w _)
 have HR:=hid hR
 have hmm:=@run_makeMap Tryz.prog
 have hmf:∀ (fn:Fn) (first cap:Array Value) (w:World),(Instr.makeFunc fn first cap).run Tryz.prog w = .ok (.func fn first cap) w:=fun _ _ _ _=>rfl
 have hwd:=fun W hW=>word_any b s W hW
 rw [hw] at hwd
 dsimp only at hwd
 have hcp:∀ W:World,Calls Tryz.prog 48 #[.string (str wd),.string (str [85,78])] W fun e w'=>e = .returned (.tuple #[.string (str nm),.bool un])∧w' = W:=fun W=>by
  refine (Tryz.strings_CutPrefix (str wd) (str [85,78]) W).mono ?_
  rintro e w' ⟨rfl,rfl⟩
  refine ⟨?_,rfl⟩
  have e1:(takes [85,78] wd).1 = un:=by rw [htk]
  have e2:(takes [85,78] wd).2 = nm:=by rw [htk]
  rw [← e1,← e2,takes_fst,← trim_drop]
  rfl
 clear hR h a1 hw htk
 have tok0:Tk 0:=⟨⟩
 go_enter Tryz.func66,Tryz.ntmps66
 go_upto_region 1 with fail
 go_cut [32] from 12 to 31 (fun v32 wx=>v32 = .bool false∧wx = (w.alloc (.cells #[.int .i64 0,.bool false,.string ⟨#[]⟩,.int .i64 0,.slice none 0 0] 39)))
 case first =>
  have hc0:=R1.out.c
  rcases s with _ | ⟨c,s'⟩
  · go_wp2_with fail
    go_meet
    exact ⟨rfl,rfl⟩
  · have hix:∀ h:0 < (str (c :: s')).size,(str (c :: s'))[0] = c:=fun h=>rfl
    have hz:=str_size (c :: s')
    have hdg:=fun W=>digit_any c W
    have h42:((c.toNat:Int) == 42) = decide (c = 42):=byte_eq c 42 (by decide)
    have hh2:(isDg c || decide (c = 42)) = false:=hh
    obtain ⟨D,hD⟩:∃ D,isDg c = D:=⟨_,rfl⟩
    obtain ⟨E,hE⟩:∃ E,decide (c = 42) = E:=⟨_,rfl⟩
    rw [hD] at hdg hh2
    rw [hE] at h42 hh2
    clear hD hE hh
    have DG:=hid hdg
    clear hdg
    cases D <;> cases E
    · go_wp2_with (go_at_call 89;refine (DG.out _).mono ?_;rintro e w9 ⟨rfl,rfl⟩)
      go_meet
      exact ⟨rfl,rfl⟩
    all_goals cases hh2
 case rest =>
  obtain ⟨rfl,rfl⟩:=hcut
  rcases flagAt_lt hq with rfl | rfl | rfl | rfl | rfl
  · clear hq
    go_wp2_with (first
     | (go_at_call 25;refine (hwd _ R1.out).mono ?_;rintro e w2 ⟨rfl,r2,o2⟩;have a2:=(Below.refl w2.heap.size w2).alloc (Nat.le_refl _) (.cells #[.string (str nm)] 9);have c2:=cells_at (heap_alloc_new w2 (.cells #[.string (str nm)] 9)) 0;have R2:=hid (r2.below a2);have O2:=hid (O1.out.trans (o2.trans (Only.of a2 (Nat.le_of_lt r2.lt))));have Z2:=hid ((Z1.out.only o2 hdb).below a2);clear r2 o2 a2)
     | (go_at_call 48;refine (hcp _).mono ?_;rintro e w9 ⟨rfl,he⟩;obtain rfl:=he.symm)
     | (go_at_call 41;refine (flags_any _).mono ?_;rintro e w3 ⟨g,rfl,g1,g2,g3,b3⟩;have R3:=hid (R2.out.below b3);have O3:=hid (O2.out.trans (Only.of b3 (Nat.le_of_lt R2.out.lt)));have Z3:=hid (Z2.out.below b3);have C3:=hid ((b3.cell (by simp)).trans c2);have G3:=hid g3;clear b3 g3)
     | (go_at_call 101;have hx:=idxf_any 102 w2.heap.size nm (enters_of Tryz.func102 (by kernel_rfl) rfl) (fun s W h1 h2=>keyC_any s _ _ W h1 h2) g w3 G3.out C3.out;rw [HQ.out,idx0] at hx;refine hx.mono ?_;clear hx;rintro e w4 ⟨rfl,b4⟩;have R4:=hid (R3.out.below b4);have O4:=hid (O3.out.trans (Only.of b4 (Nat.le_of_lt R3.out.lt)));have z4:=Z3.out.below b4;have y0:=z4.c0;have yf0:=z4.free 0;have y1:=z4.c1;have yf1:=z4.free 1;have y2:=z4.c2;have yf2:=z4.free 2;have y3:=z4.c3;have yf3:=z4.free 3;have y4:=z4.c4;have yf4:=z4.free 4;have Z4:=hid z4;clear b4 z4))
    refine bodyPost_ret (v:=.agg #[.int .i64 2,.bool un,.string (str []),.int .i64 1,.slice none 0 0]) (by first | (simp [results,Tryz.results66,go_sem,y0,y1,y2,y3,y4];done) | (simp [results,Tryz.results66,go_sem,y0,y1,y2,y3,y4];rfl)) rfl ?_
    exact Reads.give (x:={ kind:=2,n:=1,not:=un }) (t:=t1) (by rw [HR.out];rfl) (((((O4.out.setNew hblt (Nat.le_refl _) _).setNew hblt (Nat.le_refl _) _).setNew hblt (Nat.le_refl _) _).setNew hblt (Nat.le_refl _) _).setNew hblt (Nat.le_refl _) _) ⟨_,rfl,Sq.RBuf.nil (by have:=O4.out.size;simpa [World.setCell] using this)⟩ (((((R4.out.far hblt _).far hblt _).far hblt _).far hblt _).far hblt _)
  · clear hq
    go_wp2_with (first
     | (go_at_call 25;refine (hwd _ R1.out).mono ?_;rintro e w2 ⟨rfl,r2,o2⟩;have a2:=(Below.refl w2.heap.size w2).alloc (Nat.le_refl _) (.cells #[.string (str nm)] 9);have c2:=cells_at (heap_alloc_new w2 (.cells #[.string (str nm)] 9)) 0;have R2:=hid (r2.below a2);have O2:=hid (O1.out.trans (o2.trans (Only.of a2 (Nat.le_of_lt r2.lt))));have Z2:=hid ((Z1.out.only o2 hdb).below a2);clear r2 o2 a2)
     | (go_at_call 48;refine (hcp _).mono ?_;rintro e w9 ⟨rfl,he⟩;obtain rfl:=he.symm)
     | (go_at_call 41;refine (flags_any _).mono ?_;rintro e w3 ⟨g,rfl,g1,g2,g3,b3⟩;have R3:=hid (R2.out.below b3);have O3:=hid (O2.out.trans (Only.of b3 (Nat.le_of_lt R2.out.lt)));have Z3:=hid (Z2.out.below b3);have C3:=hid ((b3.cell (by simp)).trans c2);have G3:=hid g3;clear b3 g3)
     | (go_at_call 101;have hx:=idxf_any 102 w2.heap.size nm (enters_of Tryz.func102 (by kernel_rfl) rfl) (fun s W h1 h2=>keyC_any s _ _ W h1 h2) g w3 G3.out C3.out;rw [HQ.out,idx1] at hx;refine hx.mono ?_;clear hx;rintro e w4 ⟨rfl,b4⟩;have R4:=hid (R3.out.below b4);have O4:=hid (O3.out.trans (Only.of b4 (Nat.le_of_lt R3.out.lt)));have z4:=Z3.out.below b4;have y0:=z4.c0;have yf0:=z4.free 0;have y1:=z4.c1;have yf1:=z4.free 1;have y2:=z4.c2;have yf2:=z4.free 2;have y3:=z4.c3;have yf3:=z4.free 3;have y4:=z4.c4;have yf4:=z4.free 4;have Z4:=hid z4;clear b4 z4))
    refine bodyPost_ret (v:=.agg #[.int .i64 2,.bool un,.string (str []),.int .i64 2,.slice none 0 0]) (by first | (simp [results,Tryz.results66,go_sem,y0,y1,y2,y3,y4];done) | (simp [results,Tryz.results66,go_sem,y0,y1,y2,y3,y4];rfl)) rfl ?_
    exact Reads.give (x:={ kind:=2,n:=2,not:=un }) (t:=t1) (by rw [HR.out];rfl) (((((O4.out.setNew hblt (Nat.le_refl _) _).setNew hblt (Nat.le_refl _) _).setNew hblt (Nat.le_refl _) _).setNew hblt (Nat.le_refl _) _).setNew hblt (Nat.le_refl _) _) ⟨_,rfl,Sq.RBuf.nil (by have:=O4.out.size;simpa [World.setCell] using this)⟩ (((((R4.out.far hblt _).far hblt _).far hblt _).far hblt _).far hblt _)
  · clear hq
    go_wp2_with (first
     | (go_at_call 25;refine (hwd _ R1.out).mono ?_;rintro e w2 ⟨rfl,r2,o2⟩;have a2:=(Below.refl w2.heap.size w2).alloc (Nat.le_refl _) (.cells #[.string (str nm)] 9);have c2:=cells_at (heap_alloc_new w2 (.cells #[.string (str nm)] 9)) 0;have R2:=hid (r2.below a2);have O2:=hid (O1.out.trans (o2.trans (Only.of a2 (Nat.le_of_lt r2.lt))));have Z2:=hid ((Z1.out.only o2 hdb).below a2);clear r2 o2 a2)
     | (go_at_call 48;refine (hcp _).mono ?_;rintro e w9 ⟨rfl,he⟩;obtain rfl:=he.symm)
     | (go_at_call 41;refine (flags_any _).mono ?_;rintro e w3 ⟨g,rfl,g1,g2,g3,b3⟩;have R3:=hid (R2.out.below b3);have O3:=hid (O2.out.trans (Only.of b3 (Nat.le_of_lt R2.out.lt)));have Z3:=hid (Z2.out.below b3);have C3:=hid ((b3.cell (by simp)).trans c2);have G3:=hid g3;clear b3 g3)
     | (go_at_call 101;have hx:=idxf_any 102 w2.heap.size nm (enters_of Tryz.func102 (by kernel_rfl) rfl) (fun s W h1 h2=>keyC_any s _ _ W h1 h2) g w3 G3.out C3.out;rw [HQ.out,idx2] at hx;refine hx.mono ?_;clear hx;rintro e w4 ⟨rfl,b4⟩;have R4:=hid (R3.out.below b4);have O4:=hid (O3.out.trans (Only.of b4 (Nat.le_of_lt R3.out.lt)));have z4:=Z3.out.below b4;have y0:=z4.c0;have yf0:=z4.free 0;have y1:=z4.c1;have yf1:=z4.free 1;have y2:=z4.c2;have yf2:=z4.free 2;have y3:=z4.c3;have yf3:=z4.free 3;have y4:=z4.c4;have yf4:=z4.free 4;have Z4:=hid z4;clear b4 z4))
    refine bodyPost_ret (v:=.agg #[.int .i64 2,.bool un,.string (str []),.int .i64 4,.slice none 0 0]) (by first | (simp [results,Tryz.results66,go_sem,y0,y1,y2,y3,y4];done) | (simp [results,Tryz.results66,go_sem,y0,y1,y2,y3,y4];rfl)) rfl ?_
    exact Reads.give (x:={ kind:=2,n:=4,not:=un }) (t:=t1) (by rw [HR.out];rfl) (((((O4.out.setNew hblt (Nat.le_refl _) _).setNew hblt (Nat.le_refl _) _).setNew hblt (Nat.le_refl _) _).setNew hblt (Nat.le_refl _) _).setNew hblt (Nat.le_refl _) _) ⟨_,rfl,Sq.RBuf.nil (by have:=O4.out.size;simpa [World.setCell] using this)⟩ (((((R4.out.far hblt _).far hblt _).far hblt _).far hblt _).far hblt _)
  · clear hq
    go_wp2_with (first
     | (go_at_call 25;refine (hwd _ R1.out).mono ?_;rintro e w2 ⟨rfl,r2,o2⟩;have a2:=(Below.refl w2.heap.size w2).alloc (Nat.le_refl _) (.cells #[.string (str nm)] 9);have c2:=cells_at (heap_alloc_new w2 (.cells #[.string (str nm)] 9)) 0;have R2:=hid (r2.below a2);have O2:=hid (O1.out.trans (o2.trans (Only.of a2 (Nat.le_of_lt r2.lt))));have Z2:=hid ((Z1.out.only o2 hdb).below a2);clear r2 o2 a2)
     | (go_at_call 48;refine (hcp _).mono ?_;rintro e w9 ⟨rfl,he⟩;obtain rfl:=he.symm)
     | (go_at_call 41;refine (flags_any _).mono ?_;rintro e w3 ⟨g,rfl,g1,g2,g3,b3⟩;have R3:=hid (R2.out.below b3);have O3:=hid (O2.out.trans (Only.of b3 (Nat.le_of_lt R2.out.lt)));have Z3:=hid (Z2.out.below b3);have C3:=hid ((b3.cell (by simp)).trans c2);have G3:=hid g3;clear b3 g3)
     | (go_at_call 101;have hx:=idxf_any 102 w2.heap.size nm (enters_of Tryz.func102 (by kernel_rfl) rfl) (fun s W h1 h2=>keyC_any s _ _ W h1 h2) g w3 G3.out C3.out;rw [HQ.out,idx3] at hx;refine hx.mono ?_;clear hx;rintro e w4 ⟨rfl,b4⟩;have R4:=hid (R3.out.below b4);have O4:=hid (O3.out.trans (Only.of b4 (Nat.le_of_lt R3.out.lt)));have z4:=Z3.out.below b4;have y0:=z4.c0;have yf0:=z4.free 0;have y1:=z4.c1;have yf1:=z4.free 1;have y2:=z4.c2;have yf2:=z4.free 2;have y3:=z4.c3;have yf3:=z4.free 3;have y4:=z4.c4;have yf4:=z4.free 4;have Z4:=hid z4;clear b4 z4))
    refine bodyPost_ret (v:=.agg #[.int .i64 2,.bool un,.string (str []),.int .i64 8,.slice none 0 0]) (by first | (simp [results,Tryz.results66,go_sem,y0,y1,y2,y3,y4];done) | (simp [results,Tryz.results66,go_sem,y0,y1,y2,y3,y4];rfl)) rfl ?_
    exact Reads.give (x:={ kind:=2,n:=8,not:=un }) (t:=t1) (by rw [HR.out];rfl) (((((O4.out.setNew hblt (Nat.le_refl _) _).setNew hblt (Nat.le_refl _) _).setNew hblt (Nat.le_refl _) _).setNew hblt (Nat.le_refl _) _).setNew hblt (Nat.le_refl _) _) ⟨_,rfl,Sq.RBuf.nil (by have:=O4.out.size;simpa [World.setCell] using this)⟩ (((((R4.out.far hblt _).far hblt _).far hblt _).far hblt _).far hblt _)
  · clear hq
    go_wp2_with (first
     | (go_at_call 25;refine (hwd _ R1.out).mono ?_;rintro e w2 ⟨rfl,r2,o2⟩;have a2:=(Below.refl w2.heap.size w2).alloc (Nat.le_refl _) (.cells #[.string (str nm)] 9);have c2:=cells_at (heap_alloc_new w2 (.cells #[.string (str nm)] 9)) 0;have R2:=hid (r2.below a2);have O2:=hid (O1.out.trans (o2.trans (Only.of a2 (Nat.le_of_lt r2.lt))));have Z2:=hid ((Z1.out.only o2 hdb).below a2);clear r2 o2 a2)
     | (go_at_call 48;refine (hcp _).mono ?_;rintro e w9 ⟨rfl,he⟩;obtain rfl:=he.symm)
     | (go_at_call 41;refine (flags_any _).mono ?_;rintro e w3 ⟨g,rfl,g1,g2,g3,b3⟩;have R3:=hid (R2.out.below b3);have O3:=hid (O2.out.trans (Only.of b3 (Nat.le_of_lt R2.out.lt)));have Z3:=hid (Z2.out.below b3);have C3:=hid ((b3.cell (by simp)).trans c2);have G3:=hid g3;clear b3 g3)
     | (go_at_call 101;have hx:=idxf_any 102 w2.heap.size nm (enters_of Tryz.func102 (by kernel_rfl) rfl) (fun s W h1 h2=>keyC_any s _ _ W h1 h2) g w3 G3.out C3.out;rw [HQ.out,idx4] at hx;refine hx.mono ?_;clear hx;rintro e w4 ⟨rfl,b4⟩;have R4:=hid (R3.out.below b4);have O4:=hid (O3.out.trans (Only.of b4 (Nat.le_of_lt R3.out.lt)));have z4:=Z3.out.below b4;have y0:=z4.c0;have yf0:=z4.free 0;have y1:=z4.c1;have yf1:=z4.free 1;have y2:=z4.c2;have yf2:=z4.free 2;have y3:=z4.c3;have yf3:=z4.free 3;have y4:=z4.c4;have yf4:=z4.free 4;have Z4:=hid z4;clear b4 z4))
    refine bodyPost_ret (v:=.agg #[.int .i64 2,.bool un,.string (str []),.int .i64 16,.slice none 0 0]) (by first | (simp [results,Tryz.results66,go_sem,y0,y1,y2,y3,y4];done) | (simp [results,Tryz.results66,go_sem,y0,y1,y2,y3,y4];rfl)) rfl ?_
    exact Reads.give (x:={ kind:=2,n:=16,not:=un }) (t:=t1) (by rw [HR.out];rfl) (((((O4.out.setNew hblt (Nat.le_refl _) _).setNew hblt (Nat.le_refl _) _).setNew hblt (Nat.le_refl _) _).setNew hblt (Nat.le_refl _) _).setNew hblt (Nat.le_refl _) _) ⟨_,rfl,Sq.RBuf.nil (by have:=O4.out.size;simpa [World.setCell] using this)⟩ (((((R4.out.far hblt _).far hblt _).far hblt _).far hblt _).far hblt _)
set_option maxHeartbeats 8000000 in
theorem key_all (dp:Int) (b:Nat) (s:Bt) (w:World) (h:RdI w b s) (hh:headB s = false) (wd t1 nm:Bt) (un:Bool) (hw:Im.word s = (wd,t1)) (htk:takes [85,78] wd = (un,nm)) (hq:flagAt nm = none) (K1 K2:Int) (hK1:kindOf textKinds wd = K1) (hK2:kindOf sizeKinds wd = K2) (e1:(wd == [65,76,76]) = true) (R:Option (Ky × Bt)) (hR:R = some ({ kind:=1 },t1)) :
  Calls Tryz.prog 66 #[.pointer (some ⟨b,0,none⟩),.int .i64 dp] w fun e w'=>Reads b w (vKey w.heap.size) R e w':=by
 have hblt:=h.lt
 have HQ:=hid hq
 clear hq
 have hdb:w.heap.size ≠ b:=by omega
 have a1:Below w.heap.size w (w.alloc (.cells #[.int .i64 0,.bool false,.string ⟨#[]⟩,.int .i64 0,.slice none 0 0] 39)):=(Below.refl _ _).alloc (Nat.le_refl _) _
 have R1:=hid (h.below a1)
 have O1:=hid (Only.of a1 (Nat.le_of_lt hblt))
 have Z1:Hid (KyB (w.alloc (.cells #[.int .i64 0,.bool false,.string ⟨#[]⟩,.int .i64 0,.slice none 0 0] 39)) w.heap.size (.int .i64 0) (.bool false) (.string ⟨#[]⟩) (.int .i64 0) (.slice none 0 0)):=hid (heap_alloc_new w _)
 have HR:=hid hR
 have hmm:=@run_makeMap Tryz.prog
 have hmf:∀ (fn:Fn) (first cap:Array Value) (w:World),(Instr.makeFunc fn first cap).run Tryz.prog w = .ok (.func fn first cap) w:=fun _ _ _ _=>rfl
 have hwd:=fun W hW=>word_any b s W hW
 rw [hw] at hwd
 dsimp only at hwd
 have hcp:∀ W:World,Calls Tryz.prog 48 #[.string (str wd),.string (str [85,78])] W fun e w'=>e = .returned (.tuple #[.string (str nm),.bool un])∧w' = W:=fun W=>by
  refine (Tryz.strings_CutPrefix (str wd) (str [85,78]) W).mono ?_
  rintro e w' ⟨rfl,rfl⟩
  refine ⟨?_,rfl⟩
  have e1:(takes [85,78] wd).1 = un:=by rw [htk]
  have e2:(takes [85,78] wd).2 = nm:=by rw [htk]
  rw [← e1,← e2,takes_fst,← trim_drop]
  rfl
 clear hR h a1 hw htk
 have tok0:Tk 0:=⟨⟩
 go_enter Tryz.func66,Tryz.ntmps66
 go_upto_region 1 with fail
 go_cut [32] from 12 to 31 (fun v32 wx=>v32 = .bool false∧wx = (w.alloc (.cells #[.int .i64 0,.bool false,.string ⟨#[]⟩,.int .i64 0,.slice none 0 0] 39)))
 case first =>
  have hc0:=R1.out.c
  rcases s with _ | ⟨c,s'⟩
  · go_wp2_with fail
    go_meet
    exact ⟨rfl,rfl⟩
  · have hix:∀ h:0 < (str (c :: s')).size,(str (c :: s'))[0] = c:=fun h=>rfl
    have hz:=str_size (c :: s')
    have hdg:=fun W=>digit_any c W
    have h42:((c.toNat:Int) == 42) = decide (c = 42):=byte_eq c 42 (by decide)
    have hh2:(isDg c || decide (c = 42)) = false:=hh
    obtain ⟨D,hD⟩:∃ D,isDg c = D:=⟨_,rfl⟩
    obtain ⟨E,hE⟩:∃ E,decide (c = 42) = E:=⟨_,rfl⟩
    rw [hD] at hdg hh2
    rw [hE] at h42 hh2
    clear hD hE hh
    have DG:=hid hdg
    clear hdg
    cases D <;> cases E
    · go_wp2_with (go_at_call 89;refine (DG.out _).mono ?_;rintro e w9 ⟨rfl,rfl⟩)
      go_meet
      exact ⟨rfl,rfl⟩
    all_goals cases hh2
 case rest =>
  obtain ⟨rfl,rfl⟩:=hcut
  go_wp2_with (first
   | (go_at_call 25;refine (hwd _ R1.out).mono ?_;rintro e w2 ⟨rfl,r2,o2⟩;have a2:=(Below.refl w2.heap.size w2).alloc (Nat.le_refl _) (.cells #[.string (str nm)] 9);have c2:=cells_at (heap_alloc_new w2 (.cells #[.string (str nm)] 9)) 0;have R2:=hid (r2.below a2);have O2:=hid (O1.out.trans (o2.trans (Only.of a2 (Nat.le_of_lt r2.lt))));have Z2:=hid ((Z1.out.only o2 hdb).below a2);clear r2 o2 a2)
   | (go_at_call 48;refine (hcp _).mono ?_;rintro e w9 ⟨rfl,he⟩;obtain rfl:=he.symm)
   | (go_at_call 41;refine (flags_any _).mono ?_;rintro e w3 ⟨g,rfl,g1,g2,g3,b3⟩;have R3:=hid (R2.out.below b3);have O3:=hid (O2.out.trans (Only.of b3 (Nat.le_of_lt R2.out.lt)));have Z3:=hid (Z2.out.below b3);have C3:=hid ((b3.cell (by simp)).trans c2);have G3:=hid g3;clear b3 g3)
   | (go_at_call 101;have hx:=idxf_any 102 w2.heap.size nm (enters_of Tryz.func102 (by kernel_rfl) rfl) (fun s W h1 h2=>keyC_any s _ _ W h1 h2) g w3 G3.out C3.out;rw [HQ.out,idxN] at hx;refine hx.mono ?_;clear hx;rintro e w4 ⟨rfl,b4⟩;have R4:=hid (R3.out.below b4);have O4:=hid (O3.out.trans (Only.of b4 (Nat.le_of_lt R3.out.lt)));have z4:=Z3.out.below b4;have y0:=z4.c0;have yf0:=z4.free 0;have y1:=z4.c1;have yf1:=z4.free 1;have y2:=z4.c2;have yf2:=z4.free 2;have y3:=z4.c3;have yf3:=z4.free 3;have y4:=z4.c4;have yf4:=z4.free 4;have Z4:=hid z4;clear b4 z4)
   | (have t_:Tk 0:=‹Tk 0›;refine wpList_putIn w4 _ rfl _ _ _ rfl Tryz.underlying100 Tryz.underlying9 _ _ rfl (MapIn.new' w4) _ rfl _ rfl (by rfl) ?_;intro m1 p1;clear t_ tok0;have tok1:Tk 1:=⟨⟩)
   | (have t_:Tk 1:=‹Tk 1›;refine wpList_putIn w4 _ rfl _ _ _ rfl Tryz.underlying100 Tryz.underlying9 _ _ rfl p1 _ rfl _ rfl (by rfl) ?_;intro m2 p2;clear t_ tok1;have tok2:Tk 2:=⟨⟩)
   | (have t_:Tk 2:=‹Tk 2›;refine wpList_putIn w4 _ rfl _ _ _ rfl Tryz.underlying100 Tryz.underlying9 _ _ rfl p2 _ rfl _ rfl (by rfl) ?_;intro m3 p3;clear t_ tok2;have tok3:Tk 3:=⟨⟩)
   | (have t_:Tk 3:=‹Tk 3›;refine wpList_putIn m3 _ rfl _ _ _ rfl Tryz.underlying100 Tryz.underlying9 _ _ rfl (MapIn.new' m3) _ rfl _ rfl (by rfl) ?_;intro m4 p4;clear t_ tok3;have tok4:Tk 4:=⟨⟩)
   | (have t_:Tk 4:=‹Tk 4›;refine wpList_putIn m3 _ rfl _ _ _ rfl Tryz.underlying100 Tryz.underlying9 _ _ rfl p4 _ rfl _ rfl (by rfl) ?_;intro m5 p5;clear t_ tok4;have tok5:Tk 5:=⟨⟩;have M1:=hid ((show MapAt m3 w4.heap.size (kindV textKinds) from p3.map).below p5.low);have M2:=hid (show MapAt m5 m3.heap.size (kindV sizeKinds) from p5.map);have l5:=below_then p3.low p5.low;have n1:w4.heap.size ≠ b:=(by have:=R4.out.lt;omega);have n2:m3.heap.size ≠ b:=(by have:=R4.out.lt;have:=p3.low.size;omega);have n3:w4.heap.size ≠ w.heap.size:=(by have:=Z4.out.lt;omega);have n4:m3.heap.size ≠ w.heap.size:=(by have:=Z4.out.lt;have:=p3.low.size;omega);have hlk1:=lookK textKinds wd M1.out;have hlk2:=lookK sizeKinds wd M2.out;rw [hK1] at hlk1;rw [hK2] at hlk2;have R5:=hid (R4.out.below l5);have O5:=hid (O4.out.trans (Only.of l5 (Nat.le_of_lt R4.out.lt)));have z5:=Z4.out.below l5;have y0:=z5.c0;have yf0:=z5.free 0;have y1:=z5.c1;have yf1:=z5.free 1;have y2:=z5.c2;have yf2:=z5.free 2;have y3:=z5.c3;have yf3:=z5.free 3;have y4:=z5.c4;have yf4:=z5.free 4;have Z5:=hid z5;clear z5 l5))
  refine bodyPost_ret (v:=.agg #[.int .i64 1,.bool false,.string (str []),.int .i64 0,.slice none 0 0]) (by first | (simp [results,Tryz.results66,go_sem,y0,y1,y2,y3,y4];done) | (simp [results,Tryz.results66,go_sem,y0,y1,y2,y3,y4];rfl)) rfl ?_
  exact Reads.give (x:={ kind:=1 }) (t:=t1) (by rw [HR.out]) (((((O5.out.setNew hblt (Nat.le_refl _) _).setNew hblt (Nat.le_refl _) _).setNew hblt (Nat.le_refl _) _).setNew hblt (Nat.le_refl _) _).setNew hblt (Nat.le_refl _) _) ⟨_,rfl,Sq.RBuf.nil (by have:=O5.out.size;simpa [World.setCell] using this)⟩ (((((R5.out.far hblt _).far hblt _).far hblt _).far hblt _).far hblt _)
set_option maxHeartbeats 8000000 in
theorem key_deep (dp:Int) (b:Nat) (s:Bt) (w:World) (h:RdI w b s) (hh:headB s = false) (wd t1 nm:Bt) (un:Bool) (hw:Im.word s = (wd,t1)) (htk:takes [85,78] wd = (un,nm)) (hq:flagAt nm = none) (K1 K2:Int) (hK1:kindOf textKinds wd = K1) (hK2:kindOf sizeKinds wd = K2) (e1:(wd == [65,76,76]) = false) (e2:(wd == [78,79,84]) = true) (hdp:8 ≤ dp) (R:Option (Ky × Bt)) (hR:R = none) :
  Calls Tryz.prog 66 #[.pointer (some ⟨b,0,none⟩),.int .i64 dp] w fun e w'=>Reads b w (vKey w.heap.size) R e w':=by
 have hdd:decide (dp < 8) = false:=decide_eq_false (by omega)
 have hblt:=h.lt
 have HQ:=hid hq
 clear hq
 have hdb:w.heap.size ≠ b:=by omega
 have a1:Below w.heap.size w (w.alloc (.cells #[.int .i64 0,.bool false,.string ⟨#[]⟩,.int .i64 0,.slice none 0 0] 39)):=(Below.refl _ _).alloc (Nat.le_refl _) _
 have R1:=hid (h.below a1)
 have O1:=hid (Only.of a1 (Nat.le_of_lt hblt))
 have Z1:Hid (KyB (w.alloc (.cells #[.int .i64 0,.bool false,.string ⟨#[]⟩,.int .i64 0,.slice none 0 0] 39)) w.heap.size (.int .i64 0) (.bool false) (.string ⟨#[]⟩) (.int .i64 0) (.slice none 0 0)):=hid (heap_alloc_new w _)
 have HR:=hid hR
 have hmm:=@run_makeMap Tryz.prog
 have hmf:∀ (fn:Fn) (first cap:Array Value) (w:World),(Instr.makeFunc fn first cap).run Tryz.prog w = .ok (.func fn first cap) w:=fun _ _ _ _=>rfl
 have hwd:=fun W hW=>word_any b s W hW
 rw [hw] at hwd
 dsimp only at hwd
 have hcp:∀ W:World,Calls Tryz.prog 48 #[.string (str wd),.string (str [85,78])] W fun e w'=>e = .returned (.tuple #[.string (str nm),.bool un])∧w' = W:=fun W=>by
  refine (Tryz.strings_CutPrefix (str wd) (str [85,78]) W).mono ?_
  rintro e w' ⟨rfl,rfl⟩
  refine ⟨?_,rfl⟩
  have e1:(takes [85,78] wd).1 = un:=by rw [htk]
  have e2:(takes [85,78] wd).2 = nm:=by rw [htk]
  rw [← e1,← e2,takes_fst,← trim_drop]
  rfl
 clear hR h a1 hw htk
 have tok0:Tk 0:=⟨⟩
 go_enter Tryz.func66,Tryz.ntmps66
 go_upto_region 1 with fail
 go_cut [32] from 12 to 31 (fun v32 wx=>v32 = .bool false∧wx = (w.alloc (.cells #[.int .i64 0,.bool false,.string ⟨#[]⟩,.int .i64 0,.slice none 0 0] 39)))
 case first =>
  have hc0:=R1.out.c
  rcases s with _ | ⟨c,s'⟩
  · go_wp2_with fail
    go_meet
    exact ⟨rfl,rfl⟩
  · have hix:∀ h:0 < (str (c :: s')).size,(str (c :: s'))[0] = c:=fun h=>rfl
    have hz:=str_size (c :: s')
    have hdg:=fun W=>digit_any c W
    have h42:((c.toNat:Int) == 42) = decide (c = 42):=byte_eq c 42 (by decide)
    have hh2:(isDg c || decide (c = 42)) = false:=hh
    obtain ⟨D,hD⟩:∃ D,isDg c = D:=⟨_,rfl⟩
    obtain ⟨E,hE⟩:∃ E,decide (c = 42) = E:=⟨_,rfl⟩
    rw [hD] at hdg hh2
    rw [hE] at h42 hh2
    clear hD hE hh
    have DG:=hid hdg
    clear hdg
    cases D <;> cases E
    · go_wp2_with (go_at_call 89;refine (DG.out _).mono ?_;rintro e w9 ⟨rfl,rfl⟩)
      go_meet
      exact ⟨rfl,rfl⟩
    all_goals cases hh2
 case rest =>
  obtain ⟨rfl,rfl⟩:=hcut
  go_wp2_with (first
   | (go_at_call 25;refine (hwd _ R1.out).mono ?_;rintro e w2 ⟨rfl,r2,o2⟩;have a2:=(Below.refl w2.heap.size w2).alloc (Nat.le_refl _) (.cells #[.string (str nm)] 9);have c2:=cells_at (heap_alloc_new w2 (.cells #[.string (str nm)] 9)) 0;have R2:=hid (r2.below a2);have O2:=hid (O1.out.trans (o2.trans (Only.of a2 (Nat.le_of_lt r2.lt))));have Z2:=hid ((Z1.out.only o2 hdb).below a2);clear r2 o2 a2)
   | (go_at_call 48;refine (hcp _).mono ?_;rintro e w9 ⟨rfl,he⟩;obtain rfl:=he.symm)
   | (go_at_call 41;refine (flags_any _).mono ?_;rintro e w3 ⟨g,rfl,g1,g2,g3,b3⟩;have R3:=hid (R2.out.below b3);have O3:=hid (O2.out.trans (Only.of b3 (Nat.le_of_lt R2.out.lt)));have Z3:=hid (Z2.out.below b3);have C3:=hid ((b3.cell (by simp)).trans c2);have G3:=hid g3;clear b3 g3)
   | (go_at_call 101;have hx:=idxf_any 102 w2.heap.size nm (enters_of Tryz.func102 (by kernel_rfl) rfl) (fun s W h1 h2=>keyC_any s _ _ W h1 h2) g w3 G3.out C3.out;rw [HQ.out,idxN] at hx;refine hx.mono ?_;clear hx;rintro e w4 ⟨rfl,b4⟩;have R4:=hid (R3.out.below b4);have O4:=hid (O3.out.trans (Only.of b4 (Nat.le_of_lt R3.out.lt)));have z4:=Z3.out.below b4;have y0:=z4.c0;have yf0:=z4.free 0;have y1:=z4.c1;have yf1:=z4.free 1;have y2:=z4.c2;have yf2:=z4.free 2;have y3:=z4.c3;have yf3:=z4.free 3;have y4:=z4.c4;have yf4:=z4.free 4;have Z4:=hid z4;clear b4 z4)
   | (have t_:Tk 0:=‹Tk 0›;refine wpList_putIn w4 _ rfl _ _ _ rfl Tryz.underlying100 Tryz.underlying9 _ _ rfl (MapIn.new' w4) _ rfl _ rfl (by rfl) ?_;intro m1 p1;clear t_ tok0;have tok1:Tk 1:=⟨⟩)
   | (have t_:Tk 1:=‹Tk 1›;refine wpList_putIn w4 _ rfl _ _ _ rfl Tryz.underlying100 Tryz.underlying9 _ _ rfl p1 _ rfl _ rfl (by rfl) ?_;intro m2 p2;clear t_ tok1;have tok2:Tk 2:=⟨⟩)
   | (have t_:Tk 2:=‹Tk 2›;refine wpList_putIn w4 _ rfl _ _ _ rfl Tryz.underlying100 Tryz.underlying9 _ _ rfl p2 _ rfl _ rfl (by rfl) ?_;intro m3 p3;clear t_ tok2;have tok3:Tk 3:=⟨⟩)
   | (have t_:Tk 3:=‹Tk 3›;refine wpList_putIn m3 _ rfl _ _ _ rfl Tryz.underlying100 Tryz.underlying9 _ _ rfl (MapIn.new' m3) _ rfl _ rfl (by rfl) ?_;intro m4 p4;clear t_ tok3;have tok4:Tk 4:=⟨⟩)
   | (have t_:Tk 4:=‹Tk 4›;refine wpList_putIn m3 _ rfl _ _ _ rfl Tryz.underlying100 Tryz.underlying9 _ _ rfl p4 _ rfl _ rfl (by rfl) ?_;intro m5 p5;clear t_ tok4;have tok5:Tk 5:=⟨⟩;have M1:=hid ((show MapAt m3 w4.heap.size (kindV textKinds) from p3.map).below p5.low);have M2:=hid (show MapAt m5 m3.heap.size (kindV sizeKinds) from p5.map);have l5:=below_then p3.low p5.low;have n1:w4.heap.size ≠ b:=(by have:=R4.out.lt;omega);have n2:m3.heap.size ≠ b:=(by have:=R4.out.lt;have:=p3.low.size;omega);have n3:w4.heap.size ≠ w.heap.size:=(by have:=Z4.out.lt;omega);have n4:m3.heap.size ≠ w.heap.size:=(by have:=Z4.out.lt;have:=p3.low.size;omega);have hlk1:=lookK textKinds wd M1.out;have hlk2:=lookK sizeKinds wd M2.out;rw [hK1] at hlk1;rw [hK2] at hlk2;have R5:=hid (R4.out.below l5);have O5:=hid (O4.out.trans (Only.of l5 (Nat.le_of_lt R4.out.lt)));have z5:=Z4.out.below l5;have y0:=z5.c0;have yf0:=z5.free 0;have y1:=z5.c1;have yf1:=z5.free 1;have y2:=z5.c2;have yf2:=z5.free 2;have y3:=z5.c3;have yf3:=z5.free 3;have y4:=z5.c4;have yf4:=z5.free 4;have Z5:=hid z5;clear z5 l5)
   | (go_at_call 28;refine (must_f _).mono ?_;rintro e w9 ⟨rfl,he⟩;obtain rfl:=he.symm))
  exact ⟨rfl,Reads.panic HR.out O5.out⟩
end Go.Proofs.YtfdmdmahddjjmaaGreatDoor
namespace Go.Proofs.YtfdmdmahddjjmaaGreatDoor
open Go.RowKit Own Im
attribute [local go_sem] str_toList str_size
set_option maxHeartbeats 8000000 in
theorem key_not (dp:Int) (b:Nat) (s:Bt) (w:World) (h:RdI w b s) (hh:headB s = false) (wd t1 nm:Bt) (un:Bool) (hw:Im.word s = (wd,t1)) (htk:takes [85,78] wd = (un,nm)) (hq:flagAt nm = none) (K1 K2:Int) (hK1:kindOf textKinds wd = K1) (hK2:kindOf sizeKinds wd = K2) (e1:(wd == [65,76,76]) = false) (e2:(wd == [78,79,84]) = true) (h0:0 ≤ dp) (hdp:dp < 8) (dq:Int) (hdq:dp + 1 = dq) (nx:Rd Ky) (ih:∀ (s:Bt) (W:World),RdI W b s→Calls Tryz.prog 66 #[.pointer (some ⟨b,0,none⟩),.int .i64 dq] W fun e w'=>Reads b W (vKey W.heap.size) (nx s) e w') (R:Option (Ky × Bt)) (hR:R = (sign [32] t1).bind fun s=>(nx s).map fun q=>({ q.1 with not:=!q.1.not },q.2)) :
  Calls Tryz.prog 66 #[.pointer (some ⟨b,0,none⟩),.int .i64 dp] w fun e w'=>Reads b w (vKey w.heap.size) R e w':=by
 have hblt:=h.lt
 have hwr:IntKind.i64.wrap (dp + 1) = dq:=by rw [IntKind.wrap_i64];omega
 have HQ:=hid hq
 clear hq
 have hdb:w.heap.size ≠ b:=by omega
 have a1:Below w.heap.size w (w.alloc (.cells #[.int .i64 0,.bool false,.string ⟨#[]⟩,.int .i64 0,.slice none 0 0] 39)):=(Below.refl _ _).alloc (Nat.le_refl _) _
 have R1:=hid (h.below a1)
 have O1:=hid (Only.of a1 (Nat.le_of_lt hblt))
 have Z1:Hid (KyB (w.alloc (.cells #[.int .i64 0,.bool false,.string ⟨#[]⟩,.int .i64 0,.slice none 0 0] 39)) w.heap.size (.int .i64 0) (.bool false) (.string ⟨#[]⟩) (.int .i64 0) (.slice none 0 0)):=hid (heap_alloc_new w _)
 have HR:=hid hR
 have hmm:=@run_makeMap Tryz.prog
 have hmf:∀ (fn:Fn) (first cap:Array Value) (w:World),(Instr.makeFunc fn first cap).run Tryz.prog w = .ok (.func fn first cap) w:=fun _ _ _ _=>rfl
 have hwd:=fun W hW=>word_any b s W hW
 rw [hw] at hwd
 dsimp only at hwd
 have hcp:∀ W:World,Calls Tryz.prog 48 #[.string (str wd),.string (str [85,78])] W fun e w'=>e = .returned (.tuple #[.string (str nm),.bool un])∧w' = W:=fun W=>by
  refine (Tryz.strings_CutPrefix (str wd) (str [85,78]) W).mono ?_
  rintro e w' ⟨rfl,rfl⟩
  refine ⟨?_,rfl⟩
  have e1:(takes [85,78] wd).1 = un:=by rw [htk]
  have e2:(takes [85,78] wd).2 = nm:=by rw [htk]
  rw [← e1,← e2,takes_fst,← trim_drop]
  rfl
 clear hR h a1 hw htk
 have tok0:Tk 0:=⟨⟩
 go_enter Tryz.func66,Tryz.ntmps66
 go_upto_region 1 with fail
 go_cut [32] from 12 to 31 (fun v32 wx=>v32 = .bool false∧wx = (w.alloc (.cells #[.int .i64 0,.bool false,.string ⟨#[]⟩,.int .i64 0,.slice none 0 0] 39)))
 case first =>
  have hc0:=R1.out.c
  rcases s with _ | ⟨c,s'⟩
  · go_wp2_with fail
    go_meet
    exact ⟨rfl,rfl⟩
  · have hix:∀ h:0 < (str (c :: s')).size,(str (c :: s'))[0] = c:=fun h=>rfl
    have hz:=str_size (c :: s')
    have hdg:=fun W=>digit_any c W
    have h42:((c.toNat:Int) == 42) = decide (c = 42):=byte_eq c 42 (by decide)
    have hh2:(isDg c || decide (c = 42)) = false:=hh
    obtain ⟨D,hD⟩:∃ D,isDg c = D:=⟨_,rfl⟩
    obtain ⟨E,hE⟩:∃ E,decide (c = 42) = E:=⟨_,rfl⟩
    rw [hD] at hdg hh2
    rw [hE] at h42 hh2
    clear hD hE hh
    have DG:=hid hdg
    clear hdg
    cases D <;> cases E
    · go_wp2_with (go_at_call 89;refine (DG.out _).mono ?_;rintro e w9 ⟨rfl,rfl⟩)
      go_meet
      exact ⟨rfl,rfl⟩
    all_goals cases hh2
 case rest =>
  obtain ⟨rfl,rfl⟩:=hcut
  go_wp2_with (first
   | (go_at_call 25;refine (hwd _ R1.out).mono ?_;rintro e w2 ⟨rfl,r2,o2⟩;have a2:=(Below.refl w2.heap.size w2).alloc (Nat.le_refl _) (.cells #[.string (str nm)] 9);have c2:=cells_at (heap_alloc_new w2 (.cells #[.string (str nm)] 9)) 0;have R2:=hid (r2.below a2);have O2:=hid (O1.out.trans (o2.trans (Only.of a2 (Nat.le_of_lt r2.lt))));have Z2:=hid ((Z1.out.only o2 hdb).below a2);clear r2 o2 a2)
   | (go_at_call 48;refine (hcp _).mono ?_;rintro e w9 ⟨rfl,he⟩;obtain rfl:=he.symm)
   | (go_at_call 41;refine (flags_any _).mono ?_;rintro e w3 ⟨g,rfl,g1,g2,g3,b3⟩;have R3:=hid (R2.out.below b3);have O3:=hid (O2.out.trans (Only.of b3 (Nat.le_of_lt R2.out.lt)));have Z3:=hid (Z2.out.below b3);have C3:=hid ((b3.cell (by simp)).trans c2);have G3:=hid g3;clear b3 g3)
   | (go_at_call 101;have hx:=idxf_any 102 w2.heap.size nm (enters_of Tryz.func102 (by kernel_rfl) rfl) (fun s W h1 h2=>keyC_any s _ _ W h1 h2) g w3 G3.out C3.out;rw [HQ.out,idxN] at hx;refine hx.mono ?_;clear hx;rintro e w4 ⟨rfl,b4⟩;have R4:=hid (R3.out.below b4);have O4:=hid (O3.out.trans (Only.of b4 (Nat.le_of_lt R3.out.lt)));have z4:=Z3.out.below b4;have y0:=z4.c0;have yf0:=z4.free 0;have y1:=z4.c1;have yf1:=z4.free 1;have y2:=z4.c2;have yf2:=z4.free 2;have y3:=z4.c3;have yf3:=z4.free 3;have y4:=z4.c4;have yf4:=z4.free 4;have Z4:=hid z4;clear b4 z4)
   | (have t_:Tk 0:=‹Tk 0›;refine wpList_putIn w4 _ rfl _ _ _ rfl Tryz.underlying100 Tryz.underlying9 _ _ rfl (MapIn.new' w4) _ rfl _ rfl (by rfl) ?_;intro m1 p1;clear t_ tok0;have tok1:Tk 1:=⟨⟩)
   | (have t_:Tk 1:=‹Tk 1›;refine wpList_putIn w4 _ rfl _ _ _ rfl Tryz.underlying100 Tryz.underlying9 _ _ rfl p1 _ rfl _ rfl (by rfl) ?_;intro m2 p2;clear t_ tok1;have tok2:Tk 2:=⟨⟩)
   | (have t_:Tk 2:=‹Tk 2›;refine wpList_putIn w4 _ rfl _ _ _ rfl Tryz.underlying100 Tryz.underlying9 _ _ rfl p2 _ rfl _ rfl (by rfl) ?_;intro m3 p3;clear t_ tok2;have tok3:Tk 3:=⟨⟩)
   | (have t_:Tk 3:=‹Tk 3›;refine wpList_putIn m3 _ rfl _ _ _ rfl Tryz.underlying100 Tryz.underlying9 _ _ rfl (MapIn.new' m3) _ rfl _ rfl (by rfl) ?_;intro m4 p4;clear t_ tok3;have tok4:Tk 4:=⟨⟩)
   | (have t_:Tk 4:=‹Tk 4›;refine wpList_putIn m3 _ rfl _ _ _ rfl Tryz.underlying100 Tryz.underlying9 _ _ rfl p4 _ rfl _ rfl (by rfl) ?_;intro m5 p5;clear t_ tok4;have tok5:Tk 5:=⟨⟩;have M1:=hid ((show MapAt m3 w4.heap.size (kindV textKinds) from p3.map).below p5.low);have M2:=hid (show MapAt m5 m3.heap.size (kindV sizeKinds) from p5.map);have l5:=below_then p3.low p5.low;have n1:w4.heap.size ≠ b:=(by have:=R4.out.lt;omega);have n2:m3.heap.size ≠ b:=(by have:=R4.out.lt;have:=p3.low.size;omega);have n3:w4.heap.size ≠ w.heap.size:=(by have:=Z4.out.lt;omega);have n4:m3.heap.size ≠ w.heap.size:=(by have:=Z4.out.lt;have:=p3.low.size;omega);have hlk1:=lookK textKinds wd M1.out;have hlk2:=lookK sizeKinds wd M2.out;rw [hK1] at hlk1;rw [hK2] at hlk2;have R5:=hid (R4.out.below l5);have O5:=hid (O4.out.trans (Only.of l5 (Nat.le_of_lt R4.out.lt)));have z5:=Z4.out.below l5;have y0:=z5.c0;have yf0:=z5.free 0;have y1:=z5.c1;have yf1:=z5.free 1;have y2:=z5.c2;have yf2:=z5.free 2;have y3:=z5.c3;have yf3:=z5.free 3;have y4:=z5.c4;have yf4:=z5.free 4;have Z5:=hid z5;clear z5 l5)
   | (go_at_call 28;refine (must_t _).mono ?_;rintro e w9 ⟨rfl,he⟩;obtain rfl:=he.symm)
   | (go_at_call 53;refine (sign_any b t1 [32] _ R5.out).mono ?_;intro e w6 h6;rcases sign_cases h6 with ⟨q6,rfl,o6⟩ | ⟨s6,q6,rfl,r6,o6⟩ <;> (first | (have O6:=hid (O5.out.trans o6);have z6:=Z5.out.only o6 hdb;have y0:=z6.c0;have yf0:=z6.free 0;have y1:=z6.c1;have yf1:=z6.free 1;have y2:=z6.c2;have yf2:=z6.free 2;have y3:=z6.c3;have yf3:=z6.free 3;have y4:=z6.c4;have yf4:=z6.free 4;have Z6:=hid z6;have Y6:=hid o6;have Q6:=hid q6;have R6:=hid r6;clear o6 q6 r6 h6 z6) | (have O6:=hid (O5.out.trans o6);have Q6:=hid q6;clear o6 q6 h6)))
   | (go_at_call 66;refine (ih s6 _ R6.out).mono ?_;intro e w7 h7;rcases h7.cases with ⟨q7,rfl,o7⟩ | ⟨k7,s7,v7,q7,rfl,n7,r7,o7⟩ <;> (first | (obtain ⟨sv7,rfl,n7⟩:=n7;obtain ⟨A7,c7,rfl,-,-⟩:=n7.full;have hd6:=Z6.out.lt;have hs7:=o7.size;have N7:=hid n7;have O7:=hid (O6.out.trans o7);have a8:=(Below.refl w7.heap.size w7).alloc (Nat.le_refl _) (.cells #[.int .i64 k7.kind,.bool !k7.not,.string (str k7.text),.int .i64 k7.n,.slice A7 k7.set.length c7] 39);have z8:=(Z6.out.only o7 hdb).below a8;have y0:=z8.c0;have yf0:=z8.free 0;have y1:=z8.c1;have yf1:=z8.free 1;have y2:=z8.c2;have yf2:=z8.free 2;have y3:=z8.c3;have yf3:=z8.free 3;have y4:=z8.c4;have yf4:=z8.free 4;have R8:=hid (r7.below a8);have O8:=hid (O7.out.trans (Only.of a8 (Nat.le_of_lt r7.lt)));have N8:=hid (N7.out.stays (Below.stays a8));have Q7:=hid q7;clear q7 o7 n7 r7 z8 a8 h7) | (have O7:=hid (O6.out.trans o7);have Q7:=hid q7;clear q7 o7 h7))))
  · exact ⟨rfl,Reads.panic (by rw [HR.out];simp [Q6.out]) O6.out⟩
  · exact ⟨rfl,Reads.panic (by rw [HR.out];simp [Q6.out,Q7.out]) O7.out⟩
  · refine bodyPost_ret (v:=.agg #[.int .i64 k7.kind,.bool !k7.not,.string (str k7.text),.int .i64 k7.n,.slice A7 k7.set.length c7]) (by first | (simp [results,Tryz.results66,go_sem,y0,y1,y2,y3,y4];done) | (simp [results,Tryz.results66,go_sem,y0,y1,y2,y3,y4];rfl)) rfl ?_
    exact Reads.give (x:={ k7 with not:=!k7.not }) (t:=s7) (by rw [HR.out];simp [Q6.out,Q7.out]) (((((O8.out.setNew hblt (Nat.le_refl _) _).setNew hblt (Nat.le_refl _) _).setNew hblt (Nat.le_refl _) _).setNew hblt (Nat.le_refl _) _).setNew hblt (Nat.le_refl _) _) ⟨_,rfl,((((((N8.out.stays ((setStays _ _ _ _).mono hd6)).stays ((setStays _ _ _ _).mono hd6)).stays ((setStays _ _ _ _).mono hd6)).stays ((setStays _ _ _ _).mono hd6)).stays ((setStays _ _ _ _).mono hd6)).mono (Nat.le_of_lt hd6))⟩ (((((R8.out.far hblt _).far hblt _).far hblt _).far hblt _).far hblt _)
set_option maxHeartbeats 8000000 in
theorem key_uid (dp:Int) (b:Nat) (s:Bt) (w:World) (h:RdI w b s) (hh:headB s = false) (wd t1 nm:Bt) (un:Bool) (hw:Im.word s = (wd,t1)) (htk:takes [85,78] wd = (un,nm)) (hq:flagAt nm = none) (K1 K2:Int) (hK1:kindOf textKinds wd = K1) (hK2:kindOf sizeKinds wd = K2) (e1:(wd == [65,76,76]) = false) (e2:(wd == [78,79,84]) = false) (e3:(wd == [85,73,68]) = true) (R:Option (Ky × Bt)) (hR:R = (sign [32] t1).bind fun s=>(Im.set s).map fun q=>({ kind:=7,set:=q.1 },q.2)) :
  Calls Tryz.prog 66 #[.pointer (some ⟨b,0,none⟩),.int .i64 dp] w fun e w'=>Reads b w (vKey w.heap.size) R e w':=by
 have hblt:=h.lt
 have HQ:=hid hq
 clear hq
 have hdb:w.heap.size ≠ b:=by omega
 have a1:Below w.heap.size w (w.alloc (.cells #[.int .i64 0,.bool false,.string ⟨#[]⟩,.int .i64 0,.slice none 0 0] 39)):=(Below.refl _ _).alloc (Nat.le_refl _) _
 have R1:=hid (h.below a1)
 have O1:=hid (Only.of a1 (Nat.le_of_lt hblt))
 have Z1:Hid (KyB (w.alloc (.cells #[.int .i64 0,.bool false,.string ⟨#[]⟩,.int .i64 0,.slice none 0 0] 39)) w.heap.size (.int .i64 0) (.bool false) (.string ⟨#[]⟩) (.int .i64 0) (.slice none 0 0)):=hid (heap_alloc_new w _)
 have HR:=hid hR
 have hmm:=@run_makeMap Tryz.prog
 have hmf:∀ (fn:Fn) (first cap:Array Value) (w:World),(Instr.makeFunc fn first cap).run Tryz.prog w = .ok (.func fn first cap) w:=fun _ _ _ _=>rfl
 have hwd:=fun W hW=>word_any b s W hW
 rw [hw] at hwd
 dsimp only at hwd
 have hcp:∀ W:World,Calls Tryz.prog 48 #[.string (str wd),.string (str [85,78])] W fun e w'=>e = .returned (.tuple #[.string (str nm),.bool un])∧w' = W:=fun W=>by
  refine (Tryz.strings_CutPrefix (str wd) (str [85,78]) W).mono ?_
  rintro e w' ⟨rfl,rfl⟩
  refine ⟨?_,rfl⟩
  have e1:(takes [85,78] wd).1 = un:=by rw [htk]
  have e2:(takes [85,78] wd).2 = nm:=by rw [htk]
  rw [← e1,← e2,takes_fst,← trim_drop]
  rfl
 clear hR h a1 hw htk
 have tok0:Tk 0:=⟨⟩
 go_enter Tryz.func66,Tryz.ntmps66
 go_upto_region 1 with fail
 go_cut [32] from 12 to 31 (fun v32 wx=>v32 = .bool false∧wx = (w.alloc (.cells #[.int .i64 0,.bool false,.string ⟨#[]⟩,.int .i64 0,.slice none 0 0] 39)))
 case first =>
  have hc0:=R1.out.c
  rcases s with _ | ⟨c,s'⟩
  · go_wp2_with fail
    go_meet
    exact ⟨rfl,rfl⟩
  · have hix:∀ h:0 < (str (c :: s')).size,(str (c :: s'))[0] = c:=fun h=>rfl
    have hz:=str_size (c :: s')
    have hdg:=fun W=>digit_any c W
    have h42:((c.toNat:Int) == 42) = decide (c = 42):=byte_eq c 42 (by decide)
    have hh2:(isDg c || decide (c = 42)) = false:=hh
    obtain ⟨D,hD⟩:∃ D,isDg c = D:=⟨_,rfl⟩
    obtain ⟨E,hE⟩:∃ E,decide (c = 42) = E:=⟨_,rfl⟩
    rw [hD] at hdg hh2
    rw [hE] at h42 hh2
    clear hD hE hh
    have DG:=hid hdg
    clear hdg
    cases D <;> cases E
    · go_wp2_with (go_at_call 89;refine (DG.out _).mono ?_;rintro e w9 ⟨rfl,rfl⟩)
      go_meet
      exact ⟨rfl,rfl⟩
    all_goals cases hh2
 case rest =>
  obtain ⟨rfl,rfl⟩:=hcut
  go_wp2_with (first
   | (go_at_call 25;refine (hwd _ R1.out).mono ?_;rintro e w2 ⟨rfl,r2,o2⟩;have a2:=(Below.refl w2.heap.size w2).alloc (Nat.le_refl _) (.cells #[.string (str nm)] 9);have c2:=cells_at (heap_alloc_new w2 (.cells #[.string (str nm)] 9)) 0;have R2:=hid (r2.below a2);have O2:=hid (O1.out.trans (o2.trans (Only.of a2 (Nat.le_of_lt r2.lt))));have Z2:=hid ((Z1.out.only o2 hdb).below a2);clear r2 o2 a2)
   | (go_at_call 48;refine (hcp _).mono ?_;rintro e w9 ⟨rfl,he⟩;obtain rfl:=he.symm)
   | (go_at_call 41;refine (flags_any _).mono ?_;rintro e w3 ⟨g,rfl,g1,g2,g3,b3⟩;have R3:=hid (R2.out.below b3);have O3:=hid (O2.out.trans (Only.of b3 (Nat.le_of_lt R2.out.lt)));have Z3:=hid (Z2.out.below b3);have C3:=hid ((b3.cell (by simp)).trans c2);have G3:=hid g3;clear b3 g3)
   | (go_at_call 101;have hx:=idxf_any 102 w2.heap.size nm (enters_of Tryz.func102 (by kernel_rfl) rfl) (fun s W h1 h2=>keyC_any s _ _ W h1 h2) g w3 G3.out C3.out;rw [HQ.out,idxN] at hx;refine hx.mono ?_;clear hx;rintro e w4 ⟨rfl,b4⟩;have R4:=hid (R3.out.below b4);have O4:=hid (O3.out.trans (Only.of b4 (Nat.le_of_lt R3.out.lt)));have z4:=Z3.out.below b4;have y0:=z4.c0;have yf0:=z4.free 0;have y1:=z4.c1;have yf1:=z4.free 1;have y2:=z4.c2;have yf2:=z4.free 2;have y3:=z4.c3;have yf3:=z4.free 3;have y4:=z4.c4;have yf4:=z4.free 4;have Z4:=hid z4;clear b4 z4)
   | (have t_:Tk 0:=‹Tk 0›;refine wpList_putIn w4 _ rfl _ _ _ rfl Tryz.underlying100 Tryz.underlying9 _ _ rfl (MapIn.new' w4) _ rfl _ rfl (by rfl) ?_;intro m1 p1;clear t_ tok0;have tok1:Tk 1:=⟨⟩)
   | (have t_:Tk 1:=‹Tk 1›;refine wpList_putIn w4 _ rfl _ _ _ rfl Tryz.underlying100 Tryz.underlying9 _ _ rfl p1 _ rfl _ rfl (by rfl) ?_;intro m2 p2;clear t_ tok1;have tok2:Tk 2:=⟨⟩)
   | (have t_:Tk 2:=‹Tk 2›;refine wpList_putIn w4 _ rfl _ _ _ rfl Tryz.underlying100 Tryz.underlying9 _ _ rfl p2 _ rfl _ rfl (by rfl) ?_;intro m3 p3;clear t_ tok2;have tok3:Tk 3:=⟨⟩)
   | (have t_:Tk 3:=‹Tk 3›;refine wpList_putIn m3 _ rfl _ _ _ rfl Tryz.underlying100 Tryz.underlying9 _ _ rfl (MapIn.new' m3) _ rfl _ rfl (by rfl) ?_;intro m4 p4;clear t_ tok3;have tok4:Tk 4:=⟨⟩)
   | (have t_:Tk 4:=‹Tk 4›;refine wpList_putIn m3 _ rfl _ _ _ rfl Tryz.underlying100 Tryz.underlying9 _ _ rfl p4 _ rfl _ rfl (by rfl) ?_;intro m5 p5;clear t_ tok4;have tok5:Tk 5:=⟨⟩;have M1:=hid ((show MapAt m3 w4.heap.size (kindV textKinds) from p3.map).below p5.low);have M2:=hid (show MapAt m5 m3.heap.size (kindV sizeKinds) from p5.map);have l5:=below_then p3.low p5.low;have n1:w4.heap.size ≠ b:=(by have:=R4.out.lt;omega);have n2:m3.heap.size ≠ b:=(by have:=R4.out.lt;have:=p3.low.size;omega);have n3:w4.heap.size ≠ w.heap.size:=(by have:=Z4.out.lt;omega);have n4:m3.heap.size ≠ w.heap.size:=(by have:=Z4.out.lt;have:=p3.low.size;omega);have hlk1:=lookK textKinds wd M1.out;have hlk2:=lookK sizeKinds wd M2.out;rw [hK1] at hlk1;rw [hK2] at hlk2;have R5:=hid (R4.out.below l5);have O5:=hid (O4.out.trans (Only.of l5 (Nat.le_of_lt R4.out.lt)));have z5:=Z4.out.below l5;have y0:=z5.c0;have yf0:=z5.free 0;have y1:=z5.c1;have yf1:=z5.free 1;have y2:=z5.c2;have yf2:=z5.free 2;have y3:=z5.c3;have yf3:=z5.free 3;have y4:=z5.c4;have yf4:=z5.free 4;have Z5:=hid z5;clear z5 l5)
   | (go_at_call 53;refine (sign_any b t1 [32] _ R5.out).mono ?_;intro e w6 h6;rcases sign_cases h6 with ⟨q6,rfl,o6⟩ | ⟨s6,q6,rfl,r6,o6⟩ <;> (first | (have O6:=hid (O5.out.trans o6);have z6:=Z5.out.only o6 hdb;have y0:=z6.c0;have yf0:=z6.free 0;have y1:=z6.c1;have yf1:=z6.free 1;have y2:=z6.c2;have yf2:=z6.free 2;have y3:=z6.c3;have yf3:=z6.free 3;have y4:=z6.c4;have yf4:=z6.free 4;have Z6:=hid z6;have Y6:=hid o6;have Q6:=hid q6;have R6:=hid r6;clear o6 q6 r6 h6 z6) | (have O6:=hid (O5.out.trans o6);have Q6:=hid q6;clear o6 q6 h6)))
   | (go_at_call 62;refine (set_any b s6 _ R6.out).mono ?_;intro e w7 h7;rcases h7.cases with ⟨q7,rfl,o7⟩ | ⟨x7,s7,v7,q7,rfl,n7,r7,o7⟩ <;> (first | (obtain ⟨A7,c7,rfl,-,-⟩:=n7.full;have hd6:=Z6.out.lt;have N7:=hid n7;have O7:=hid (O6.out.trans o7);have z7:=Z6.out.only o7 hdb;have y0:=z7.c0;have yf0:=z7.free 0;have y1:=z7.c1;have yf1:=z7.free 1;have y2:=z7.c2;have yf2:=z7.free 2;have y3:=z7.c3;have yf3:=z7.free 3;have y4:=z7.c4;have yf4:=z7.free 4;have Q7:=hid q7;have R7:=hid r7;clear q7 o7 n7 r7 z7 h7) | (have O7:=hid (O6.out.trans o7);have Q7:=hid q7;clear q7 o7 h7))))
  · exact ⟨rfl,Reads.panic (by rw [HR.out];simp [Q6.out]) O6.out⟩
  · exact ⟨rfl,Reads.panic (by rw [HR.out];simp [Q6.out,Q7.out]) O7.out⟩
  · refine bodyPost_ret (v:=.agg #[.int .i64 7,.bool false,.string (str []),.int .i64 0,.slice A7 x7.length c7]) (by first | (simp [results,Tryz.results66,go_sem,y0,y1,y2,y3,y4];done) | (simp [results,Tryz.results66,go_sem,y0,y1,y2,y3,y4];rfl)) rfl ?_
    exact Reads.give (x:={ kind:=7,set:=x7 }) (t:=s7) (by rw [HR.out];simp [Q6.out,Q7.out]) (((((O7.out.setNew hblt (Nat.le_refl _) _).setNew hblt (Nat.le_refl _) _).setNew hblt (Nat.le_refl _) _).setNew hblt (Nat.le_refl _) _).setNew hblt (Nat.le_refl _) _) ⟨_,rfl,((((((N7.out.stays ((setStays _ _ _ _).mono hd6)).stays ((setStays _ _ _ _).mono hd6)).stays ((setStays _ _ _ _).mono hd6)).stays ((setStays _ _ _ _).mono hd6)).stays ((setStays _ _ _ _).mono hd6)).mono (Nat.le_of_lt hd6))⟩ (((((R7.out.far hblt _).far hblt _).far hblt _).far hblt _).far hblt _)
end Go.Proofs.YtfdmdmahddjjmaaGreatDoor
