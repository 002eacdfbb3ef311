/-
  Joined texts: ImG ImH ImI ImE ImF.
-/
import Derived.Test.YtfdmdmahddjjmaaGreatDoorPkIm0
import Derived.Test.YtfdmdmahddjjmaaGreatDoorPkOwn
import Derived.Deep.RegionHeld3
import Derived.Laws.BitsLemmas
import Derived.MapKept
import Derived.Deep.AppendLies
set_option linter.unusedVariables false
set_option linter.unusedSimpArgs false
set_option maxRecDepth 100000
namespace Go.Proofs.YtfdmdmahddjjmaaGreatDoor
open Go.RowKit Own Im
attribute [local go_sem] str_toList str_size
theorem str_beq (a b:Bt):(str a == str b) = (a == b):=by
 by_cases h:a = b
 · subst h
   rw [(MapKept.bytes_beq _ _).2 rfl];simp
 · rw [(beq_eq_false_iff_ne).2 h,Bool.eq_false_iff]
   intro k
   exact h (str_inj ((MapKept.bytes_beq _ _).1 k))
theorem flags_any (w:World):Calls Tryz.prog 41 #[] w fun e w'=>∃ g,e = .returned (.slice (some ⟨g,0,none⟩) 5 5)∧w.heap.size ≤ g∧g < w'.heap.size∧(∀ (j:Nat) (x:Bt),flagNames[j]? = some x→w'.cell? ⟨g,j,none⟩ = some (.string (str x)))∧Below w.heap.size w w':=by
 go_enter Tryz.func41,Tryz.ntmps41
 go_wp2
 go_ret
 refine ⟨w.heap.size,rfl,Nat.le_refl _,by simp,?_,(Below.refl _ _).alloc (Nat.le_refl _) _⟩
 intro j x hx
 have hj:j < 5:=by
  rcases Nat.lt_or_ge j 5 with h | h
  · exact h
  · rw [List.getElem?_eq_none (by simpa [flagNames] using h)] at hx;cases hx
 rw [cells_at (heap_alloc_new w _)]
 have:j = 0∨j = 1∨j = 2∨j = 3∨j = 4:=by omega
 rcases this with rfl | rfl | rfl | rfl | rfl <;> (cases hx;rfl)
def idxI:Option Nat→Int
 | some i=>i
 | none=>-1
theorem idxN:idxI none = -1:=rfl
theorem idx0:idxI (some 0) = 0:=rfl
theorem idx1:idxI (some 1) = 1:=rfl
theorem idx2:idxI (some 2) = 2:=rfl
theorem idx3:idxI (some 3) = 3:=rfl
theorem idx4:idxI (some 4) = 4:=rfl
theorem flagAt_lt {x:Bt} {i:Nat} (h:flagAt x = some i):i = 0∨i = 1∨i = 2∨i = 3∨i = 4:=by
 unfold flagAt at h
 obtain ⟨h1,_⟩:=List.findIdx?_eq_some_iff_getElem.1 h
 have:i < 5:=h1
 omega
set_option maxHeartbeats 1000000 in
theorem idxf_any (fid:FuncId) (c:Nat) (x:Bt) (he:∀ args w,(callFunc fid args).run Tryz.prog w = .ok (.enter fid args) w)
  (hf:∀ (s:Bt) (W:World),s.length ≤ 100→W.cell? ⟨c,0,none⟩ = some (.string (str x))→Calls Tryz.prog fid #[.string (str s),.pointer (some ⟨c,0,none⟩)] W fun e W'=>e = .returned (.bool (great s == x))∧Below W.heap.size W W')
  (g:Nat) (w:World) (hg:∀ (j:Nat) (y:Bt),flagNames[j]? = some y→w.cell? ⟨g,j,none⟩ = some (.string (str y))) (hc:w.cell? ⟨c,0,none⟩ = some (.string (str x))) :
  Calls Tryz.prog 101 #[.slice (some ⟨g,0,none⟩) 5 5,.func (.func fid) #[] #[.pointer (some ⟨c,0,none⟩)]] w fun e w'=>e = .returned (.int .i64 (idxI (flagAt x)))∧Below w.heap.size w w':=by
 have hglt:g < w.heap.size:=World.block_lt_of_cell? w _ (hg 0 _ rfl)
 have hclt:c < w.heap.size:=World.block_lt_of_cell? w _ hc
 have HG:=hid hg
 have HC:=hid hc
 clear hg hc
 go_enter Tryz.func101,Tryz.ntmps101
 go_wp2_with fail
 go_loopw [8] (fun v8 wr=>∃ i:Nat,i ≤ 5∧v8 = .int .i64 i∧(∀ (j:Nat) (y:Bt),j < i→flagNames[j]? = some y→(great y == x) = false)∧Below w.heap.size w wr) (fun v8 wr=>5 - (intOf v8).toNat)
 case atStart=>exact ⟨0,by omega,rfl,fun j y h=>absurd h (Nat.not_lt_zero _),Below.refl _ _⟩
 case round =>
  obtain ⟨i,hi,rfl,hno,hbel⟩:=hrel
  have HB:=hid hbel
  have HN:=hid hno
  clear hno hbel
  by_cases hil:i < 5
  · obtain ⟨y,hy⟩:∃ y,flagNames[i]? = some y:=⟨_,List.getElem?_eq_getElem (by simpa [flagNames] using hil)⟩
    have hcell:=(HB.out.cell hglt).trans (HG.out i y hy)
    have hyl:y.length ≤ 100:=by
     have:∀ z ∈ flagNames,z.length ≤ 100:=by decide
     exact this y (List.mem_of_getElem? hy)
    have hfc:=fun W (hW:W.cell? ⟨c,0,none⟩ = some (.string (str x)))=>hf y W hyl hW
    have HY:=hid hy
    have hcW:=(HB.out.cell hclt).trans HC.out
    have HCW:=hid hcW
    clear hy hcW
    cases hb:great y == x with
    | true =>
     rw [hb] at hfc
     have Hb:=hid hb
     clear hb
     go_wp2_with (refine (hfc _ HCW.out).mono ?_;rintro e w1 ⟨rfl,b1⟩;have B1:=hid b1;clear b1)
     go_ret
     refine ⟨?_,HB.out.trans (B1.out.mono HB.out.size)⟩
     have:flagAt x = some i:=by
      unfold flagAt
      rw [List.findIdx?_eq_some_iff_getElem]
      refine ⟨by simpa [flagNames] using hil,?_,?_⟩
      · have:=List.getElem?_eq_some_iff.1 HY.out
        obtain ⟨h1,h2⟩:=this
        rw [h2];exact Hb.out
      · intro j hj
        rw [HN.out j _ hj (List.getElem?_eq_getElem (by simp [flagNames];omega))]
        simp
     rw [this];rfl
    | false =>
     rw [hb] at hfc
     have Hb:=hid hb
     clear hb
     go_wp2_with (refine (hfc _ HCW.out).mono ?_;rintro e w1 ⟨rfl,b1⟩;have B1:=hid b1;clear b1)
     go_roundw
     case rel =>
      refine ⟨i + 1,by omega,by go_num,?_,HB.out.trans (B1.out.mono HB.out.size)⟩
      intro j z hj hz
      rcases Nat.lt_succ_iff_lt_or_eq.1 hj with h | rfl
      · exact HN.out j z h hz
      · have:=hz.symm.trans HY.out
        cases this
        exact Hb.out
     case measure=>simp [intOf];omega
  · obtain rfl:i = 5:=by omega
    go_wp2_with fail
    go_ret
    refine ⟨?_,HB.out⟩
    have:flagAt x = none:=by
     unfold flagAt
     rw [List.findIdx?_eq_none_iff]
     intro y hy
     obtain ⟨j,hj,rfl⟩:=List.getElem_of_mem hy
     exact HN.out j _ (by simpa [flagNames] using hj) (List.getElem?_eq_getElem hj)
    rw [this];rfl
theorem flagC_any (s x:Bt) (c:Nat) (w:World) (hl:s.length ≤ 100) (hc:w.cell? ⟨c,0,none⟩ = some (.string (str x))) :
  Calls Tryz.prog 129 #[.string (str s),.pointer (some ⟨c,0,none⟩)] w fun e w'=>e = .returned (.bool (great s == x))∧Below w.heap.size w w':=by
 have hgr:=fun W=>great_any s W (by omega)
 have hclt:c < w.heap.size:=World.block_lt_of_cell? w _ hc
 have hbq:=str_beq (great s) x
 go_enter Tryz.func129,Tryz.ntmps129
 go_wp2_with fail
 go_region_held3 (fun w'=>w'.cell? ⟨c,0,none⟩ = some (.string (str x)))
  (first
    | assumption
    | exact (hb.cell hclt).trans hc
    | go_keep)
  (first | (go_at_call 45;refine (hgr _).mono ?_;rintro e w1 ⟨rfl,hb⟩))
 go_wp2
 go_ret
 exact ⟨by first | rfl | (show Ending.returned (.bool (str (great s) == str x)) = _;rw [hbq]),below_then (Below.refl _ _).drew hb⟩
theorem keyC_any (s x:Bt) (c:Nat) (w:World) (hl:s.length ≤ 100) (hc:w.cell? ⟨c,0,none⟩ = some (.string (str x))) :
  Calls Tryz.prog 102 #[.string (str s),.pointer (some ⟨c,0,none⟩)] w fun e w'=>e = .returned (.bool (great s == x))∧Below w.heap.size w w':=by
 have hgr:=fun W=>great_any s W (by omega)
 have hclt:c < w.heap.size:=World.block_lt_of_cell? w _ hc
 have hbq:=str_beq (great s) x
 go_enter Tryz.func102,Tryz.ntmps102
 go_wp2_with fail
 go_region_held3 (fun w'=>w'.cell? ⟨c,0,none⟩ = some (.string (str x)))
  (first
    | assumption
    | exact (hb.cell hclt).trans hc
    | go_keep)
  (first | (go_at_call 45;refine (hgr _).mono ?_;rintro e w1 ⟨rfl,hb⟩))
 go_wp2
 go_ret
 exact ⟨by first | rfl | (show Ending.returned (.bool (str (great s) == str x)) = _;rw [hbq]),below_then (Below.refl _ _).drew hb⟩
set_option maxHeartbeats 1000000 in
theorem flag_any (b:Nat) (s:Bt) (w:World) (h:RdI w b s) :
  Calls Tryz.prog 97 #[.pointer (some ⟨b,0,none⟩)] w fun e w'=>Reads b w vFlags (Im.flag s) e w':=by
 have hmf:∀ (fn:Fn) (first cap:Array Value) (w:World),(Instr.makeFunc fn first cap).run Tryz.prog w = .ok (.func fn first cap) w:=fun _ _ _ _=>rfl
 have H:=hid h
 clear h
 obtain ⟨R,hR⟩:∃ R,R = Im.flag s:=⟨_,rfl⟩
 rw [← hR]
 have HR:=hid hR
 clear hR
 go_enter Tryz.func97,Tryz.ntmps97
 go_wp2_with (first
  | (go_at_call 53;refine (sign_any b s [92] _ H.out).mono ?_;intro e w1 h1;rcases sign_cases h1 with ⟨q1,rfl,o1⟩ | ⟨s1,q1,rfl,r1,o1⟩ <;> (first | (have O1:=hid o1;have Q1:=hid q1;have R1:=hid r1;clear o1 q1 r1 h1) | (have O1:=hid o1;have Q1:=hid q1;clear o1 q1 h1)))
  | (go_at_call 25;refine (word_any b s1 _ R1.out).mono ?_;rintro e w2 ⟨rfl,r2,o2⟩;have a2:=(Below.refl w2.heap.size w2).alloc (Nat.le_refl _) (.cells #[.string (str (Im.word s1).1)] 9);have c2:=cells_at (heap_alloc_new w2 (.cells #[.string (str (Im.word s1).1)] 9)) 0;have R2:=hid (r2.below a2);have O2:=hid (O1.out.trans (o2.trans (Only.of a2 (Nat.le_of_lt r2.lt))));clear r2 o2 a2)
  | (go_at_call 41;refine (flags_any _).mono ?_;rintro e w3 ⟨g,rfl,g1,g2,g3,b3⟩;have R3:=hid (R2.out.below b3);have O3:=hid (O2.out.trans (Only.of b3 (Nat.le_of_lt R2.out.lt)));have C3:=hid ((b3.cell (by simp)).trans c2);have G3:=hid g3;clear b3 g3)
  | (go_at_call 101;have hx:=idxf_any 129 w2.heap.size (Im.word s1).1 (enters_of Tryz.func129 (by kernel_rfl) rfl) (fun s W h1 h2=>flagC_any s _ _ W h1 h2) g w3 G3.out C3.out;rcases hq:flagAt (Im.word s1).1 with _ | i <;> rw [hq] at hx <;> (first | (rcases flagAt_lt hq with rfl | rfl | rfl | rfl | rfl) | skip) <;> (have Q4:=hid hq;clear hq;first | rw [idx0] at hx | rw [idx1] at hx | rw [idx2] at hx | rw [idx3] at hx | rw [idx4] at hx | rw [idxN] at hx) <;> (refine hx.mono ?_;clear hx;rintro e w4 ⟨rfl,b4⟩;have R4:=hid (R3.out.below b4);have O4:=hid (O3.out.trans (Only.of b4 (Nat.le_of_lt R3.out.lt)));clear b4))
  | (go_at_call 28;refine (must_any _ _).mono ?_;rintro e w5 ⟨h5,rfl⟩;rcases must_split h5 with ⟨m5,rfl⟩ | ⟨m5,rfl⟩ <;> (first | (exfalso;revert m5;simp [idxI];done) | clear h5 m5)))
 all_goals first
  | (refine ⟨rfl,Reads.panic ?_ O4.out⟩;rw [HR.out];simp [Im.flag,Q1.out,Q4.out];done)
  | (refine ⟨rfl,Reads.panic ?_ O1.out⟩;rw [HR.out];simp [Im.flag,Q1.out];done)
  | skip
 all_goals go_ret
 all_goals exact Reads.give (by rw [HR.out];simp [Im.flag,Q1.out,Q4.out]) O4.out rfl R4.out
end Go.Proofs.YtfdmdmahddjjmaaGreatDoor
namespace Go.Proofs.YtfdmdmahddjjmaaGreatDoor
open Go.RowKit Own Im
attribute [local go_sem] str_toList str_size
theorem or_i64 (a b:Nat) (ha:a < 32) (hb:b < 32):bits .or .i64 (a:Int) (b:Int) = ((a ||| b:Nat):Int):=by
 refine (bits_nat .i64 5 (by decide) (fun n h0 h1=>?_) a b ha hb).2
 rw [IntKind.wrap_i64]
 omega
theorem or_lt (a b:Nat) (ha:a < 32) (hb:b < 32):a ||| b < 32:=Nat.or_lt_two_pow (n:=5) ha hb
theorem flag_b {s t:Bt} {i:Nat} (h:Im.flag s = some (i,t)):i < 32:=by
 unfold Im.flag at h
 obtain ⟨s1,h1,h⟩:=Option.bind_eq_some_iff.1 h
 obtain ⟨k,h2,h3⟩:=Option.map_eq_some_iff.1 h
 cases h3
 rcases flagAt_lt h2 with rfl | rfl | rfl | rfl | rfl <;> decide
theorem listL_t (f n:Nat) (t:Bt):listL (f + 1) true n t = if (takes [41] t).1 = true then some (n,(takes [41] t).2) else (Im.flag t).bind fun q=>listL f false (n ||| q.1) q.2:=by
 rw [listL.eq_def]
 simp
theorem listL_f (f n:Nat) (t:Bt):listL (f + 1) false n t = if (takes [41] t).1 = true then some (n,(takes [41] t).2) else (sign [32] t).bind fun s=>(Im.flag s).bind fun q=>listL f false (n ||| q.1) q.2:=by
 rw [listL.eq_def]
 simp
set_option maxHeartbeats 2000000 in
theorem list_any (b:Nat) (s:Bt) (w:World) (h:RdI w b s) :
  Calls Tryz.prog 95 #[.pointer (some ⟨b,0,none⟩)] w fun e w'=>Reads b w vFlags (Im.list s) e w':=by
 have H:=hid h
 clear h
 obtain ⟨R,hR⟩:∃ R,R = Im.list s:=⟨_,rfl⟩
 rw [← hR]
 have HR:=hid hR
 clear hR
 go_enter Tryz.func95,Tryz.ntmps95
 go_wp2_with (first
  | (go_at_call 53;refine (sign_any b s [40] _ H.out).mono ?_;intro e w1 h1;rcases sign_cases h1 with ⟨q1,rfl,o1⟩ | ⟨s1,q1,rfl,r1,o1⟩ <;> (first | (have O1:=hid o1;have Q1:=hid q1;have R1:=hid r1;clear o1 q1 r1 h1) | (have O1:=hid o1;have Q1:=hid q1;clear o1 q1 h1))))
 all_goals first
  | (refine ⟨rfl,Reads.panic ?_ O1.out⟩;rw [HR.out];simp [Im.list,Q1.out];done)
  | skip
 have hR1:R = listL (s1.length + 1) true 0 s1:=by rw [HR.out];simp [Im.list,Q1.out]
 go_loopw [3,4] (fun v3 v4 wr=>∃ (f n:Nat) (fst:Bool) (t:Bt),v3 = .int .i64 n∧v4 = .bool fst∧R = listL f fst n t∧t.length < f∧n < 32∧RdI wr b t∧Only b w wr) (fun _ _ wr=>rdLen b wr)
 case atStart=>exact ⟨_,0,true,s1,rfl,rfl,hR1,Nat.lt_succ_self _,by decide,R1.out,O1.out⟩
 case round =>
  obtain ⟨f,n,fst,t,rfl,rfl,hr,hl,hn,hrd,ho⟩:=hrel
  obtain ⟨f,rfl⟩:∃ k,f = k + 1:=⟨f - 1,by omega⟩
  have HRd:=hid hrd
  have HO:=hid ho
  clear hrd ho hR1
  cases fst with
  | true =>
   rw [listL_t] at hr
   have HR2:=hid hr
   clear hr
   go_wp2_with (first
    | (go_at_call 26;refine (takes_any b t [41] _ HRd.out).mono ?_;intro e w2 h2;rcases takes_cases h2 with ⟨s2,q2,rfl,r2,o2⟩ | ⟨s2,q2,rfl,r2,o2⟩ <;> (have O2:=hid o2;have Q2:=hid q2;have R2:=hid r2;clear o2 q2 r2 h2))
    | (go_at_call 97;refine (flag_any b s2 _ R2.out).mono ?_;intro e w4 h4;rcases h4.cases with ⟨q4,rfl,o4⟩ | ⟨x4,s4,y4,q4,rfl,rfl,r4,o4⟩ <;> (first | (have hb4:=flag_b q4;have hlt4:=flag_lt q4;have hor:=or_i64 n x4 hn hb4;have O4:=hid o4;have Q4:=hid q4;have R4:=hid r4;clear o4 q4 r4 h4) | (have O4:=hid o4;have Q4:=hid q4;clear o4 q4 h4))))
   all_goals first
    | (refine ⟨rfl,Reads.panic ?_ ((HO.out.trans O2.out).trans O4.out)⟩;rw [HR2.out,if_neg (by rw [Q2.out];simp)];obtain rfl:=takes_no Q2.out;rw [Q4.out];rfl)
    | (obtain rfl:=takes_no Q2.out;refine ⟨⟨f,n ||| x4,false,s4,rfl,rfl,(by rw [HR2.out,if_neg (by rw [Q2.out];simp),Q4.out];rfl),by omega,or_lt _ _ hn hb4,R4.out,(HO.out.trans O2.out).trans O4.out⟩,(by rw [rdLen_of R4.out,rdLen_of HRd.out];omega)⟩)
    | (go_ret;exact Reads.give (by rw [HR2.out,if_pos (by rw [Q2.out]),Q2.out]) (HO.out.trans O2.out) rfl R2.out)
  | false =>
   rw [listL_f] at hr
   have HR2:=hid hr
   clear hr
   go_wp2_with (first
    | (go_at_call 26;refine (takes_any b t [41] _ HRd.out).mono ?_;intro e w2 h2;rcases takes_cases h2 with ⟨s2,q2,rfl,r2,o2⟩ | ⟨s2,q2,rfl,r2,o2⟩ <;> (have O2:=hid o2;have Q2:=hid q2;have R2:=hid r2;clear o2 q2 r2 h2))
    | (go_at_call 53;refine (sign_any b s2 [32] _ R2.out).mono ?_;intro e w3 h3;rcases sign_cases h3 with ⟨q3,rfl,o3⟩ | ⟨s3,q3,rfl,r3,o3⟩ <;> (first | (have O3:=hid o3;have Q3:=hid q3;have R3:=hid r3;clear o3 q3 r3 h3) | (have O3:=hid o3;have Q3:=hid q3;clear o3 q3 h3)))
    | (go_at_call 97;refine (flag_any b s3 _ R3.out).mono ?_;intro e w4 h4;rcases h4.cases with ⟨q4,rfl,o4⟩ | ⟨x4,s4,y4,q4,rfl,rfl,r4,o4⟩ <;> (first | (have hb4:=flag_b q4;have hlt4:=flag_lt q4;have hor:=or_i64 n x4 hn hb4;have O4:=hid o4;have Q4:=hid q4;have R4:=hid r4;clear o4 q4 r4 h4) | (have O4:=hid o4;have Q4:=hid q4;clear o4 q4 h4))))
   all_goals first
    | (refine ⟨rfl,Reads.panic ?_ ((HO.out.trans O2.out).trans O3.out)⟩;rw [HR2.out,if_neg (by rw [Q2.out];simp)];obtain rfl:=takes_no Q2.out;rw [Q3.out];rfl)
    | (refine ⟨rfl,Reads.panic ?_ (((HO.out.trans O2.out).trans O3.out).trans O4.out)⟩;rw [HR2.out,if_neg (by rw [Q2.out];simp)];obtain rfl:=takes_no Q2.out;rw [Q3.out,Option.bind_some,Q4.out];rfl)
    | (obtain rfl:=takes_no Q2.out;have hs3:=sign_le Q3.out;refine ⟨⟨f,n ||| x4,false,s4,rfl,rfl,(by rw [HR2.out,if_neg (by rw [Q2.out];simp),Q3.out,Option.bind_some,Q4.out];rfl),by omega,or_lt _ _ hn hb4,R4.out,((HO.out.trans O2.out).trans O3.out).trans O4.out⟩,(by rw [rdLen_of R4.out,rdLen_of HRd.out];omega)⟩)
    | (go_ret;exact Reads.give (by rw [HR2.out,if_pos (by rw [Q2.out]),Q2.out]) (HO.out.trans O2.out) rfl R2.out)
end Go.Proofs.YtfdmdmahddjjmaaGreatDoor
namespace Go.Proofs.YtfdmdmahddjjmaaGreatDoor
open Go.RowKit Own Im
attribute [local go_sem] str_toList str_size
def secEnd (q:(List Int × Bool) × Bt):Option ((List Int × Int) × Bt):=if q.1.2 = true then some ((q.1.1,0),q.2) else (whatOf q.1.1 (Im.word q.2).1).map fun k=>((q.1.1,k),(Im.word q.2).2)
theorem section_see {s:Bt} (h:Lib.hasPrefix s [93] = true):section_ s = some (([],0),s):=by unfold section_;rw [if_pos h]
theorem section_go {s:Bt} (h:Lib.hasPrefix s [93] = false):section_ s = (numsL (s.length + 1) [] s).bind secEnd:=by unfold section_;rw [if_neg (by rw [h];simp)];rfl
theorem nums_end {f:Nat} {l:List Int} {s:Bt} (h:s = []∨∃ c t,s = c :: t∧isDg c = false):numsL (f + 1) l s = some ((l,false),s):=by
 rw [numsL.eq_def]
 rcases h with rfl | ⟨c,t,rfl,hc⟩
 · simp
 · simp [hc]
theorem nums_on {f:Nat} {l:List Int} {c:UInt8} {t:Bt} (h:isDg c = true):numsL (f + 1) l (c :: t) = (number 1 99 (c :: t)).bind fun q=>if l.length + 1 ≤ 8 then
        (if (takes [46] q.2).1 = true then numsL f (l ++ [q.1]) (takes [46] q.2).2 else some ((l ++ [q.1],true),q.2)) else none:=by
 rw [numsL.eq_def]
 simp [h]
theorem idx_map (l:List Bt) (x:Bt):∀ i,Lib.idxFromS (l.map str) (str x) i = match l.findIdx? (fun y=>y == x) with | some k=>((i + k:Nat):Int) | none=>-1:=by
 induction l with
 | nil=>intro i;rfl
 | cons y l ih =>
  intro i
  rw [List.map_cons,Lib.idxFromS,List.findIdx?_cons]
  by_cases h:y = x
  · subst h;simp
  · rw [if_neg (fun k=>h (str_inj k)),(beq_eq_false_iff_ne).2 h,ih]
    cases l.findIdx? (fun y=>y == x) with
    | none=>rfl
    | some k=>show ((i + 1 + k:Nat):Int) = ((i + (k + 1):Nat):Int);congr 1;omega
def nameI (l:List Bt) (x:Bt):Int:=match l.findIdx? (fun y=>y == x) with
 | some k=>k
 | none=>-1
theorem names_any (l:List Bt) (x:Bt) (k:Int) (hk:nameI l x = k) (hl:l.length ≤ 10) (g c:Nat) (W:World) (hc:∀ (j:Nat) (y:Bt),l[j]? = some y→W.cell? ⟨g,j,none⟩ = some (.string (str y))) :
  Calls Tryz.prog 123 #[.slice (some ⟨g,0,none⟩) l.length c,.string (str x)] W fun e w'=>e = .returned (.int .i64 k)∧w' = W:=by
 refine (Tryz.slices_Index_string g 0 l.length c (l.map str) (str x) W (by simp) (by omega) (fun j hj=>?_)).mono ?_
 · rw [List.length_map] at hj
   rw [Nat.zero_add,hc j _ (List.getElem?_eq_getElem hj),List.getD_eq_getElem?_getD,List.getElem?_map,List.getElem?_eq_getElem hj]
   rfl
 · rintro e w' ⟨rfl,rfl⟩
   refine ⟨?_,rfl⟩
   rw [List.take_of_length_le (by simp),Lib.idxOfS,idx_map,← hk]
   unfold nameI
   simp
def SecPost (b c:Nat) (w:World) (k:Int) (pk:Bool) (fr of:Int) (r:Option ((List Int × Int) × Bt)) (e:Ending) (w':World):Prop :=
 Two b c w w'∧match r with
  | none=>e = .panicked thrown
  | some q=>e = .returned (.tuple #[])∧RdI w' b q.2∧∃ sv,NBuf w.heap.size w' sv q.1.1∧ItAt w' c k sv q.1.2 pk fr of
theorem SecPost.panic {b c:Nat} {w w':World} {k:Int} {pk:Bool} {fr of:Int} {r:Option ((List Int × Int) × Bt)} (hr:r = none) (ho:Two b c w w'):SecPost b c w k pk fr of r (.panicked thrown) w':=by
 subst hr
 exact ⟨ho,rfl⟩
theorem SecPost.give {b c:Nat} {w w':World} {k:Int} {pk:Bool} {fr of:Int} {r:Option ((List Int × Int) × Bt)} {l:List Int} {wh:Int} {t:Bt} {sv:Value} (hr:r = some ((l,wh),t)) (ho:Two b c w w') (ht:RdI w' b t) (hn:NBuf w.heap.size w' sv l) (hi:ItAt w' c k sv wh pk fr of):SecPost b c w k pk fr of r (.returned (.tuple #[])) w':=by
 subst hr
 exact ⟨ho,rfl,ht,sv,hn,hi⟩
section
variable {w w':World} {c:Nat} {k wh fr of:Int} {sv:Value} {pk:Bool}
theorem ItAt.c0 (h:ItAt w c k sv wh pk fr of):w.cell? ⟨c,0,none⟩ = some (.int .i64 k):=by rw [cells_at h];rfl
theorem ItAt.c1 (h:ItAt w c k sv wh pk fr of):w.cell? ⟨c,1,none⟩ = some sv:=by rw [cells_at h];rfl
theorem ItAt.c2 (h:ItAt w c k sv wh pk fr of):w.cell? ⟨c,2,none⟩ = some (.int .i64 wh):=by rw [cells_at h];rfl
theorem ItAt.c3 (h:ItAt w c k sv wh pk fr of):w.cell? ⟨c,3,none⟩ = some (.bool pk):=by rw [cells_at h];rfl
theorem ItAt.c4 (h:ItAt w c k sv wh pk fr of):w.cell? ⟨c,4,none⟩ = some (.int .i64 fr):=by rw [cells_at h];rfl
theorem ItAt.c5 (h:ItAt w c k sv wh pk fr of):w.cell? ⟨c,5,none⟩ = some (.int .i64 of):=by rw [cells_at h];rfl
theorem ItAt.free (h:ItAt w c k sv wh pk fr of) (j:Nat):w.frozen? ⟨c,j,none⟩ = false:=by unfold World.frozen?;rw [h];simp
theorem ItAt.lt (h:ItAt w c k sv wh pk fr of):c < w.heap.size:=lt_of_block h
theorem ItAt.below (h:ItAt w c k sv wh pk fr of) (hb:Below w.heap.size w w'):ItAt w' c k sv wh pk fr of:=(hb.block c h.lt).trans h
theorem ItAt.only {b:Nat} (h:ItAt w c k sv wh pk fr of) (ho:Only b w w') (hbc:c ≠ b):ItAt w' c k sv wh pk fr of:=(ho.block hbc h.lt).trans h
theorem ItAt.set1 (h:ItAt w c k sv wh pk fr of) (x:Value):ItAt (w.setCell ⟨c,1,none⟩ x) c k x wh pk fr of:=block_set h _
theorem ItAt.set2 (h:ItAt w c k sv wh pk fr of) (x:Int):ItAt (w.setCell ⟨c,2,none⟩ (.int .i64 x)) c k sv x pk fr of:=block_set h _
theorem ItAt.set4 (h:ItAt w c k sv wh pk fr of) (x:Int):ItAt (w.setCell ⟨c,4,none⟩ (.int .i64 x)) c k sv wh pk x of:=block_set h _
theorem ItAt.set5 (h:ItAt w c k sv wh pk fr of) (x:Int):ItAt (w.setCell ⟨c,5,none⟩ (.int .i64 x)) c k sv wh pk fr x:=block_set h _
end
theorem RdI.far {w:World} {b c j:Nat} {s:Bt} (h:RdI w b s) (hbc:b < c) (x:Value):RdI (w.setCell ⟨c,j,none⟩ x) b s :=
 ⟨(Below.heap_setCell w ⟨c,j,none⟩ x b (by simp;omega)).trans h.blk,h.len,h.good.below ((Below.refl b w).setCell (p:=⟨c,j,none⟩) (Nat.le_of_lt hbc) x) (Nat.le_refl _)⟩
theorem Only.cell {w w':World} {b k j:Nat} {v:Value} (h:Only b w w') (hk:k ≠ b) (hc:w.cell? ⟨k,j,none⟩ = some v):w'.cell? ⟨k,j,none⟩ = some v:=by
 have hb:=h.block hk (World.block_lt_of_cell? w _ hc)
 unfold World.cell? at hc ⊢
 rw [hb]
 exact hc
theorem Two.cell {w w':World} {b c k j:Nat} {v:Value} (h:Two b c w w') (hk:k ≠ b) (hk2:k ≠ c) (hc:w.cell? ⟨k,j,none⟩ = some v):w'.cell? ⟨k,j,none⟩ = some v:=by
 have hb:=h.block hk hk2 (World.block_lt_of_cell? w _ hc)
 unfold World.cell? at hc ⊢
 rw [hb]
 exact hc
theorem setStays (w:World) (c j:Nat) (v:Value):Stays (c + 1) w (w.setCell ⟨c,j,none⟩ v):=⟨by simp,fun k h1 h2=>Below.heap_setCell w ⟨c,j,none⟩ v k (by simp;omega)⟩
theorem RdI.drew {w:World} {b:Nat} {s:Bt} (h:RdI w b s):RdI w.drew b s:=h.below (Below.refl _ _).drew
theorem two_cells (w:World) (l:List Bt) (cs:Array Value) (n:Nat) (hn:n = w.heap.size) (hcs:cs.toList = sv l):∀ (j:Nat) (y:Bt),l[j]? = some y→(w.alloc (.cells cs 9)).cell? ⟨n,j,none⟩ = some (.string (str y)):=by
 subst hn
 intro j y hy
 have:=lit_cells w cs 9 (0,0) w.heap.size rfl j (.string (str y)) (by rw [hcs];simp [sv,hy])
 rwa [Addr.add_lit,Nat.zero_add] at this
theorem ItAt.below' {w w':World} {c:Nat} {k wh fr of:Int} {sv:Value} {pk:Bool} {B:Nat} (h:ItAt w c k sv wh pk fr of) (hb:Below B w w') (hc:c < B):ItAt w' c k sv wh pk fr of:=(hb.block c hc).trans h
theorem step_nbuf {ops:Array Oper} {o:Oper} {a:Act} {K:Act→World→Prop} {Q:Exit→Act→World→Prop} {E:Prop} (B:Nat) (w:World) (hgd:o.guard = none) (s x:Operand)
  (ho:o.op = .call { callee:=.builtin .append,args:=#[s,x],argTypes:=#[35,35] }) (v:Value) (l:List Int) (r:Int) (hs:a.eval s = v) (hbuf:NBuf B w v l)
  (ad:Addr) (c:Nat) (hx:a.eval x = .slice (some ad) 1 c) (hnews:∀ (j:Nat) u,(nv [r])[j]? = some u→w.cell? (ad.add j) = some u) (hlen:l.length ≤ 1000000000)
  (h:∀ g cap w',NBuf B w' (.slice (some ⟨g,0,none⟩) (l.length + 1) cap) (l ++ [r])→Below B w w'→K (a.put o.dst (.slice (some ⟨g,0,none⟩) (l.length + 1) cap)) w'):if Region.wanted o (yielded ops a.tmps) = true then Oper.wp Tryz.prog o a w K Q else E:=by
 obtain ⟨i,hi,hz,hsize,hby⟩:=info_parts info_int
 refine step_append_lies w hgd s x 35 ho B 3 i _ 1 8 Tryz.underlying35 hi hz hsize hby rfl (by decide) v l.length (nv l) hs hbuf.1 ad 1 c (nv [r]) hx rfl hnews (fun u hu=>by simp [nv] at hu;subst hu;rfl) (by decide) (by unfold maxLen;omega) (by omega) hbuf.2 _ rfl ?_
 intro g cap w' h2 h3 _ _
 refine h g cap w' ⟨?_,Nat.le_trans hbuf.2 h3.size⟩ ⟨h3.os,h3.tape,h3.output,h3.size,fun k hk=>h3.block k (by have:=hbuf.2;omega) (fun e=>by have:=(hbuf.1.lt k e.symm).1;omega)⟩
 rw [show nv (l ++ [r]) = nv l ++ nv [r] by simp [nv],List.length_append]
 exact h2
end Go.Proofs.YtfdmdmahddjjmaaGreatDoor
namespace Go.Proofs.YtfdmdmahddjjmaaGreatDoor
open Go.RowKit Own Im
attribute [local go_sem] str_toList str_size
theorem pre_one (c a:UInt8) (t:Bt):Lib.hasPrefix (a :: t) [c] = decide (a = c):=by
 unfold Lib.hasPrefix
 simp [List.isPrefixOf]
 by_cases h:a = c
 · subst h;simp
 · rw [decide_eq_false h];simpa using fun k=>h k.symm
theorem pre_nil (c:UInt8):Lib.hasPrefix [] [c] = false:=by
 unfold Lib.hasPrefix
 rfl
theorem sees_nil (b:Nat) (c:UInt8) (w:World) (h:RdI w b []):Calls Tryz.prog 91 #[.pointer (some ⟨b,0,none⟩),.string (str [c])] w fun e w'=>e = .returned (.bool false)∧w' = w:=by
 have:=sees_any b [] [c] w h
 rw [pre_nil] at this
 exact this
theorem sees_one (b:Nat) (d:UInt8) (t:Bt) (c:UInt8) (w:World) (h:RdI w b (d :: t)):Calls Tryz.prog 91 #[.pointer (some ⟨b,0,none⟩),.string (str [c])] w fun e w'=>e = .returned (.bool (decide (d = c)))∧w' = w:=by
 have:=sees_any b (d :: t) [c] w h
 rw [pre_one] at this
 exact this
namespace Im
theorem quote_end (t:Bt):quoteL (34 :: t) = some ([],t):=by rw [quoteL.eq_def];simp
theorem quote_escNil:quoteL [92] = none:=by rw [quoteL.eq_def];simp
theorem quote_esc (d:UInt8) (t:Bt):quoteL (92 :: d :: t) = if d = 34∨d = 92 then (quoteL t).map (fun q=>(d :: q.1,q.2)) else none:=by rw [quoteL.eq_def];simp
theorem quote_other {c:UInt8} (t:Bt) (h1:c ≠ 34) (h2:c ≠ 92):quoteL (c :: t) = if c = 13∨c = 10 then none else (quoteL t).map (fun q=>(c :: q.1,q.2)):=by rw [quoteL.eq_def];simp [h1,h2]
end Im
theorem Bld.only {B bk b:Nat} {l:Bt} {w w':World} (h:Bld B bk l w) (ho:Only b w w') (hb:b < B):Bld B bk l w':=by
 refine ⟨?_,Nat.le_trans h.2 ho.size⟩
 have one:∀ (v1:Value),Lib.BuilderAt 93 5 B bk v1 (Lib.byteCells l) w→Lib.BuilderAt 93 5 B bk v1 (Lib.byteCells l) w':=by
  rintro p ⟨hB,v,hbk,hown,hne⟩
  refine ⟨hB,v,(ho.block (by omega) (lt_of_block hbk)).trans hbk,⟨hown.1,?_⟩,hne⟩
  rcases hown.2 with hn | ⟨g,cap,cur,rfl,hb2,hg,rest⟩
  · exact .inl hn
  · exact .inr ⟨g,cap,cur,rfl,hb2,(ho.block (by omega) (lt_of_block hg)).trans hg,rest⟩
 rcases h.1 with h | h
 · exact .inl (one _ h)
 · exact .inr (one _ h)
set_option maxHeartbeats 4000000 in
theorem quoted_any (b:Nat) (s:Bt) (w:World) (h:RdI w b s) :
  Calls Tryz.prog 92 #[.pointer (some ⟨b,0,none⟩)] w fun e w'=>Reads b w vText (Im.quoted s) e w':=by
 have H:=hid h
 clear h
 obtain ⟨R,hR⟩:∃ R,R = Im.quoted s:=⟨_,rfl⟩
 rw [← hR]
 have HR:=hid hR
 clear hR
 go_enter Tryz.func92,Tryz.ntmps92
 go_wp2_with (go_at_call 53;refine (sign_any b s [34] _ H.out).mono ?_;intro e w1 h1;rcases sign_cases h1 with ⟨q1,rfl,o1⟩ | ⟨s1,q1,rfl,r1,o1⟩ <;> (first | (have O1:=hid o1;have Q1:=hid q1;have R1:=hid r1;clear o1 q1 r1 h1) | (have O1:=hid o1;have Q1:=hid q1;clear o1 q1 h1)))
 all_goals first
  | (refine ⟨rfl,Reads.panic ?_ O1.out⟩;rw [HR.out];simp [Im.quoted,Q1.out];done)
  | skip
 have hR1:R = quoteL s1:=by rw [HR.out];simp [Im.quoted,Q1.out]
 have a0:=(Below.refl w1.heap.size w1).alloc (Nat.le_refl _) (.cells #[.pointer none,.slice none 0 0] 93)
 have R2:=hid (R1.out.below a0)
 have L2:=hid (Lib.fresh_isBuilder 93 5 w1)
 have O2:=hid (O1.out.trans (Only.of a0 (Nat.le_of_lt R1.out.lt)))
 have hb:=R1.out.lt
 have hw:=O1.out.size
 have hl1:=R1.out.len
 clear a0
 go_loopw [] (fun wr=>∃ (t acc:Bt),R = (quoteL t).map (fun q=>(acc ++ q.1,q.2))∧acc.length + t.length ≤ 100000000∧RdI wr b t∧Bld w1.heap.size w1.heap.size acc wr∧Only b w wr) (fun wr=>rdLen b wr)
 case atStart=>exact ⟨s1,[],by rw [hR1];simp,by simpa using hl1,R2.out,⟨L2.out,by simp⟩,O2.out⟩
 case round =>
  obtain ⟨t,acc,hr,hl,hrd,hbl,ho⟩:=hrel
  have c0:=hrd.c
  have f0:=hrd.free
  have HRd:=hid hrd
  have HB:=hid hbl
  have HO:=hid ho
  have HR2:=hid hr
  clear hrd hbl ho hr c0 f0
  cases t with
  | nil =>
   have hse:=fun W hW=>sees_any b [] [34] W hW
   have htk:=fun W hW=>takes_any b [] [92] W hW
   rw [pre_nil] at hse
   rw [show takes [92] [] = (false,[]) by rfl] at htk
   go_wp2_with (first
    | (go_at_call 91;refine (hse _ HRd.out).mono ?_;rintro e w2 ⟨rfl,rfl⟩)
    | (go_at_call 26;refine (htk _ HRd.out).mono ?_;rintro e w3 ⟨rfl,r3,o3⟩;have c3:=r3.c;have f3:=r3.free;have R3:=hid r3;have O3:=hid o3;clear r3 o3)
    | (go_at_call 28;refine (must_f _).mono ?_;rintro e w4 ⟨rfl,rfl⟩))
   exact ⟨rfl,Reads.panic (by rw [HR2.out];rfl) (HO.out.trans O3.out)⟩
  | cons c t =>
   have hse:=fun W hW=>sees_any b (c :: t) [34] W hW
   rw [pre_one] at hse
   by_cases h34:c = 34
   · subst h34
     have hsg:=fun W hW=>sign_any b (34 :: t) [34] W hW
     rw [show sign [34] (34 :: t) = some t by simp [sign,pre_one]] at hsg
     have hst:=fun W hW=>bstring_any w1.heap.size w1.heap.size acc W hW
     go_wp2_with (first
      | (go_at_call 91;refine (hse _ HRd.out).mono ?_;rintro e w2 ⟨rfl,rfl⟩)
      | (go_at_call 53;refine (hsg _ HRd.out).mono ?_;intro e w3 h3;rcases h3.cases with ⟨q3,rfl,o3⟩ | ⟨x,t3,v,q3,rfl,rfl,r3,o3⟩ <;> (first | (cases q3;done) | (cases q3;have R3:=hid r3;have O3:=hid o3;clear r3 o3 h3)))
      | (go_at_call 85;refine (hst _ (HB.out.only O3.out (by omega))).mono ?_;rintro e w4 ⟨rfl,b4⟩;have B4:=hid b4;clear b4))
     go_ret
     exact Reads.give (x:=acc) (t:=t) (by rw [HR2.out,quote_end];simp) ((HO.out.trans O3.out).trans' B4.out (by omega) hw) rfl (R3.out.below' B4.out (by omega))
   · rw [decide_eq_false h34] at hse
     by_cases h92:c = 92
     · subst h92
       have htk:=fun W hW=>takes_any b (92 :: t) [92] W hW
       rw [show takes [92] (92 :: t) = (true,t) by simp [takes,pre_one]] at htk
       have tok0:Tk 0:=⟨⟩
       cases t with
       | nil =>
        go_wp2_with (first
         | (go_at_call 91;have t_:Tk 0:=‹Tk 0›;refine (hse _ HRd.out).mono ?_;rintro e w2 ⟨rfl,rfl⟩;clear t_ tok0)
         | (go_at_call 26;refine (htk _ HRd.out).mono ?_;rintro e w3 ⟨rfl,r3,o3⟩;have c3:=r3.c;have f3:=r3.free;have R3:=hid r3;have O3:=hid o3;clear r3 o3)
         | (go_at_call 91;refine (sees_nil b _ _ R3.out).mono ?_;rintro e w5 ⟨rfl,rfl⟩)
         | (go_at_call 28;refine (must_f _).mono ?_;rintro e w4 ⟨rfl,rfl⟩))
        all_goals exact ⟨rfl,Reads.panic (by rw [HR2.out,quote_escNil];rfl) (HO.out.trans O3.out)⟩
       | cons d t =>
        have HQ:=quote_esc d t
        by_cases hd:d = 34∨d = 92
        · rw [if_pos hd] at HQ
          have z3:=str_size (d :: t)
          have hix:∀ h:0 < (str (d :: t)).size,(str (d :: t))[0] = d:=fun h=>rfl
          have hwb:=fun W hW=>wbyte_any w1.heap.size w1.heap.size acc d W hW (by simp at hl;omega)
          have e13:((d.toNat:Int) != 13) = true:=by rcases hd with rfl | rfl <;> rfl
          have e10:((d.toNat:Int) != 10) = true:=by rcases hd with rfl | rfl <;> rfl
          have hdd:(decide (d = 34) = true)∨(decide (d = 34) = false∧decide (d = 92) = true):=by rcases hd with rfl | rfl <;> decide
          clear hd
          rcases hdd with h1 | ⟨h1,h2⟩
          all_goals
           go_wp2_with (first
            | (go_at_call 91;have t_:Tk 0:=‹Tk 0›;refine (hse _ HRd.out).mono ?_;rintro e w2 ⟨rfl,rfl⟩;clear t_ tok0)
            | (go_at_call 26;refine (htk _ HRd.out).mono ?_;rintro e w3 ⟨rfl,r3,o3⟩;have c3:=r3.c;have f3:=r3.free;have R3:=hid r3;have O3:=hid o3;clear r3 o3)
            | (go_at_call 91;refine (sees_one b d t _ _ R3.out).mono ?_;rintro e w5 ⟨rfl,rfl⟩;first | rw [h1] | rw [h2])
            | (go_at_call 28;refine (must_t _).mono ?_;rintro e w4 ⟨rfl,rfl⟩)
            | (go_at_call 122;refine (hwb _ (HB.out.only O3.out (by omega))).mono ?_;rintro e w5 ⟨rfl,l5,b5⟩;have r5:=R3.out.below' b5 (by omega);have c5:=r5.c;have f5:=r5.free;have R5:=hid r5;have L5:=hid l5;have B5:=hid b5;clear r5 l5 b5))
           all_goals
            have ex:(str (d :: t)).extract 1 (t.length + 1) = str t:=by rw [str_from (d :: t) 1 (t.length + 1) (by simp)];rfl
            rw [ex]
            have rs:=R5.out.set t (by simp)
            refine ⟨⟨t,acc ++ [d],?_,(by simp at hl ⊢;omega),rs,L5.out.only (Only.set _ _ _ _) (by omega),((HO.out.trans O3.out).trans' B5.out (by omega) hw).trans (Only.set _ _ _ _)⟩,?_⟩
            · rw [HR2.out,HQ,Option.map_map]
              congr 1
              funext q
              simp
            · rw [rdLen_of rs,rdLen_of HRd.out]
              simp
              try omega
        · rw [if_neg hd] at HQ
          have h1:decide (d = 34) = false:=decide_eq_false (fun h=>hd (.inl h))
          have h2:decide (d = 92) = false:=decide_eq_false (fun h=>hd (.inr h))
          clear hd
          go_wp2_with (first
           | (go_at_call 91;have t_:Tk 0:=‹Tk 0›;refine (hse _ HRd.out).mono ?_;rintro e w2 ⟨rfl,rfl⟩;clear t_ tok0)
           | (go_at_call 26;refine (htk _ HRd.out).mono ?_;rintro e w3 ⟨rfl,r3,o3⟩;have c3:=r3.c;have f3:=r3.free;have R3:=hid r3;have O3:=hid o3;clear r3 o3)
           | (go_at_call 91;refine (sees_one b d t _ _ R3.out).mono ?_;rintro e w5 ⟨rfl,rfl⟩;first | rw [h1] | rw [h2])
           | (go_at_call 28;refine (must_f _).mono ?_;rintro e w4 ⟨rfl,rfl⟩))
          all_goals exact ⟨rfl,Reads.panic (by rw [HR2.out,HQ];rfl) (HO.out.trans O3.out)⟩
     · have htk:=fun W hW=>takes_any b (c :: t) [92] W hW
       rw [show takes [92] (c :: t) = (false,c :: t) by simp [takes,pre_one,h92]] at htk
       have z3:=str_size (c :: t)
       have hix:∀ h:0 < (str (c :: t)).size,(str (c :: t))[0] = c:=fun h=>rfl
       have e13:((c.toNat:Int) != 13) = !decide (c = 13):=congrArg Bool.not (byte_eq c 13 (by decide))
       have e10:((c.toNat:Int) != 10) = !decide (c = 10):=congrArg Bool.not (byte_eq c 10 (by decide))
       have hq:=quote_other t h34 h92
       have HQ:=hq
       clear hq
       by_cases h13:c = 13∨c = 10
       · rw [if_pos h13] at HQ
         rcases h13 with h13 | h13
         · rw [decide_eq_true h13,Bool.not_true] at e13
           go_wp2_with (first
            | (go_at_call 91;refine (hse _ HRd.out).mono ?_;rintro e w2 ⟨rfl,rfl⟩)
            | (go_at_call 26;refine (htk _ HRd.out).mono ?_;rintro e w3 ⟨rfl,r3,o3⟩;have c3:=r3.c;have f3:=r3.free;have R3:=hid r3;have O3:=hid o3;clear r3 o3)
            | (go_at_call 28;refine (must_f _).mono ?_;rintro e w4 ⟨rfl,rfl⟩))
           all_goals exact ⟨rfl,Reads.panic (by rw [HR2.out,HQ];rfl) (HO.out.trans O3.out)⟩
         · rw [decide_eq_true h13,Bool.not_true] at e10
           have e13':((c.toNat:Int) != 13) = true:=by rw [e13,h13];rfl
           clear e13
           go_wp2_with (first
            | (go_at_call 91;refine (hse _ HRd.out).mono ?_;rintro e w2 ⟨rfl,rfl⟩)
            | (go_at_call 26;refine (htk _ HRd.out).mono ?_;rintro e w3 ⟨rfl,r3,o3⟩;have c3:=r3.c;have f3:=r3.free;have R3:=hid r3;have O3:=hid o3;clear r3 o3)
            | (go_at_call 28;refine (must_f _).mono ?_;rintro e w4 ⟨rfl,rfl⟩))
           all_goals exact ⟨rfl,Reads.panic (by rw [HR2.out,HQ];rfl) (HO.out.trans O3.out)⟩
       · have d13:decide (c = 13) = false:=decide_eq_false (fun h=>h13 (.inl h))
         have d10:decide (c = 10) = false:=decide_eq_false (fun h=>h13 (.inr h))
         rw [d13,Bool.not_false] at e13
         rw [d10,Bool.not_false] at e10
         clear d13 d10
         have hwb:=fun W hW=>wbyte_any w1.heap.size w1.heap.size acc c W hW (by simp at hl;omega)
         go_wp2_with (first
          | (go_at_call 91;refine (hse _ HRd.out).mono ?_;rintro e w2 ⟨rfl,rfl⟩)
          | (go_at_call 26;refine (htk _ HRd.out).mono ?_;rintro e w3 ⟨rfl,r3,o3⟩;have c3:=r3.c;have f3:=r3.free;have R3:=hid r3;have O3:=hid o3;clear r3 o3)
          | (go_at_call 28;refine (must_t _).mono ?_;rintro e w4 ⟨rfl,rfl⟩)
          | (go_at_call 122;refine (hwb _ (HB.out.only O3.out (by omega))).mono ?_;rintro e w5 ⟨rfl,l5,b5⟩;have r5:=R3.out.below' b5 (by omega);have c5:=r5.c;have f5:=r5.free;have R5:=hid r5;have L5:=hid l5;have B5:=hid b5;clear r5 l5 b5))
         all_goals
          have ex:(str (c :: t)).extract 1 (t.length + 1) = str t:=by rw [str_from (c :: t) 1 (t.length + 1) (by simp)];rfl
          rw [ex]
          have rs:=R5.out.set t (by simp)
          refine ⟨⟨t,acc ++ [c],?_,(by simp at hl ⊢;omega),rs,L5.out.only (Only.set _ _ _ _) (by omega),((HO.out.trans O3.out).trans' B5.out (by omega) hw).trans (Only.set _ _ _ _)⟩,?_⟩
          · rw [HR2.out,HQ,if_neg h13,Option.map_map]
            congr 1
            funext q
            simp
          · rw [rdLen_of rs,rdLen_of HRd.out]
            simp
end Go.Proofs.YtfdmdmahddjjmaaGreatDoor
namespace Go.Proofs.YtfdmdmahddjjmaaGreatDoor
open Go.RowKit Own Im
attribute [local go_sem] str_toList str_size
set_option maxHeartbeats 1000000 in
theorem text_any (f:FuncId) (p:UInt8→Bool) (he:∀ args w,(callFunc f args).run Tryz.prog w = .ok (.enter f args) w)
  (hf:∀ (c:UInt8) (W:World),Calls Tryz.prog f #[.int .u8 c.toNat] W fun e W'=>e = .returned (.bool (p c))∧W = W') (b:Nat) (s:Bt) (w:World) (h:RdI w b s) :
  Calls Tryz.prog 54 #[.pointer (some ⟨b,0,none⟩),.func (.func f) #[] #[]] w fun e w'=>Reads b w vText (Im.text p s) e w':=by
 have hrun:=fun W hW=>run_any f p he hf b s W hW
 have hqu:=fun W hW=>quoted_any b s W hW
 have hli:=fun W hW=>literal_any b s W hW
 have H:=hid h
 clear h he hf
 obtain ⟨k1,h1⟩:∃ k1,Lib.hasPrefix s [34] = k1:=⟨_,rfl⟩
 obtain ⟨k2,h2⟩:∃ k2,Lib.hasPrefix s [123] = k2:=⟨_,rfl⟩
 have hse1:=fun W hW=>sees_any b s [34] W hW
 have hR:Im.text p s = if k1 = true then Im.quoted s else if k2 = true then literal s else if s.takeWhile p = [] then none else some (s.takeWhile p,s.dropWhile p):=by unfold Im.text;rw [h1,h2]
 obtain ⟨R,hRR⟩:∃ R,R = Im.text p s:=⟨_,rfl⟩
 rw [← hRR] at hR ⊢
 clear hRR
 cases k1 with
 | true =>
  rw [if_pos rfl] at hR
  have HR:=hid hR
  clear hR
  go_enter Tryz.func54,Tryz.ntmps54
  go_wp2_with (first
   | (go_at_call 91;refine (sees_any b s _ _ H.out).mono ?_;rintro e w1 ⟨rfl,rfl⟩;first | rw [h1] | rw [h2])
   | (go_at_call 92;refine (hqu _ H.out).mono ?_;intro e w3 h3;rcases h3.cases with ⟨q3,rfl,o3⟩ | ⟨x3,s3,y3,q3,rfl,rfl,r3,o3⟩ <;> (first | (have O3:=hid o3;have Q3:=hid q3;have R3:=hid r3;clear o3 q3 r3 h3) | (have O3:=hid o3;have Q3:=hid q3;clear o3 q3 h3))))
  · exact ⟨rfl,Reads.panic (HR.out.trans Q3.out) O3.out⟩
  · go_ret
    exact Reads.give (HR.out.trans Q3.out) O3.out rfl R3.out
 | false =>
  rw [if_neg (by simp)] at hR
  cases k2 with
  | true =>
   rw [if_pos rfl] at hR
   have HR:=hid hR
   clear hR
   go_enter Tryz.func54,Tryz.ntmps54
   go_wp2_with (first
    | (go_at_call 91;refine (sees_any b s _ _ H.out).mono ?_;rintro e w1 ⟨rfl,rfl⟩;first | rw [h1] | rw [h2])
    | (go_at_call 93;refine (hli _ H.out).mono ?_;intro e w4 h4;rcases h4.cases with ⟨q4,rfl,o4⟩ | ⟨x4,s4,y4,q4,rfl,rfl,r4,o4⟩ <;> (first | (have O4:=hid o4;have Q4:=hid q4;have R4:=hid r4;clear o4 q4 r4 h4) | (have O4:=hid o4;have Q4:=hid q4;clear o4 q4 h4))))
   · exact ⟨rfl,Reads.panic (HR.out.trans Q4.out) O4.out⟩
   · go_ret
     exact Reads.give (HR.out.trans Q4.out) O4.out rfl R4.out
  | false =>
   rw [if_neg (by simp)] at hR
   obtain ⟨T,hT⟩:∃ T,T = s.takeWhile p:=⟨_,rfl⟩
   rw [← hT] at hR hrun
   cases T with
   | nil =>
    rw [if_pos rfl] at hR
    have HR:=hid hR
    clear hR hT
    go_enter Tryz.func54,Tryz.ntmps54
    go_wp2_with (first
     | (go_at_call 91;refine (sees_any b s _ _ H.out).mono ?_;rintro e w1 ⟨rfl,rfl⟩;first | rw [h1] | rw [h2])
     | (go_at_call 46;refine (hrun _ H.out).mono ?_;rintro e w5 ⟨rfl,r5,o5⟩;have R5:=hid r5;have O5:=hid o5;clear r5 o5)
     | (go_at_call 28;refine (must_f _).mono ?_;rintro e w6 ⟨rfl,rfl⟩))
    exact ⟨rfl,Reads.panic HR.out O5.out⟩
   | cons c T =>
    rw [if_neg (by simp)] at hR
    have HR:=hid hR
    clear hR hT
    go_enter Tryz.func54,Tryz.ntmps54
    go_wp2_with (first
     | (go_at_call 91;refine (sees_any b s _ _ H.out).mono ?_;rintro e w1 ⟨rfl,rfl⟩;first | rw [h1] | rw [h2])
     | (go_at_call 46;refine (hrun _ H.out).mono ?_;rintro e w5 ⟨rfl,r5,o5⟩;have R5:=hid r5;have O5:=hid o5;clear r5 o5)
     | (go_at_call 28;refine (must_t _).mono ?_;rintro e w6 ⟨rfl,rfl⟩))
    go_ret
    exact Reads.give HR.out O5.out rfl R5.out
theorem then_any (b:Nat) (s:Bt) (w:World) (h:RdI w b s) :
  Calls Tryz.prog 51 #[.pointer (some ⟨b,0,none⟩)] w fun e w'=>Reads b w vText (Im.then_ s) e w':=by
 have htx:=fun s1 W hW=>text_any 23 atomB (enters_of Tryz.func23 (by kernel_rfl) rfl) atomc_any b s1 W hW
 have H:=hid h
 clear h
 obtain ⟨R,hR⟩:∃ R,R = Im.then_ s:=⟨_,rfl⟩
 rw [← hR]
 have HR:=hid hR
 clear hR
 go_enter Tryz.func51,Tryz.ntmps51
 go_wp2_with (first
  | (go_at_call 53;refine (sign_any b s [32] _ H.out).mono ?_;intro e w1 h1;rcases sign_cases h1 with ⟨q1,rfl,o1⟩ | ⟨s1,q1,rfl,r1,o1⟩ <;> (first | (have O1:=hid o1;have Q1:=hid q1;have R1:=hid r1;clear o1 q1 r1 h1) | (have O1:=hid o1;have Q1:=hid q1;clear o1 q1 h1)))
  | (go_at_call 54;refine (htx s1 _ R1.out).mono ?_;intro e w2 h2;rcases h2.cases with ⟨q2,rfl,o2⟩ | ⟨x2,s2,y2,q2,rfl,rfl,r2,o2⟩ <;> (first | (have O2:=hid o2;have Q2:=hid q2;have R2:=hid r2;clear o2 q2 r2 h2) | (have O2:=hid o2;have Q2:=hid q2;clear o2 q2 h2))))
 all_goals first
  | (refine ⟨rfl,Reads.panic ?_ (O1.out.trans O2.out)⟩;rw [HR.out];simp [Im.then_,Q1.out,Q2.out];done)
  | (refine ⟨rfl,Reads.panic ?_ O1.out⟩;rw [HR.out];simp [Im.then_,Q1.out];done)
  | skip
 go_ret
 exact Reads.give (by rw [HR.out];simp [Im.then_,Q1.out,Q2.out]) (O1.out.trans O2.out) rfl R2.out
end Go.Proofs.YtfdmdmahddjjmaaGreatDoor
