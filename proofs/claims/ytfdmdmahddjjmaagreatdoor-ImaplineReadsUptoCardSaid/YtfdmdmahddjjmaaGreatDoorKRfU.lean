/-
  The reference's rest: SEARCH.
-/
import Derived.Test.YtfdmdmahddjjmaaGreatDoorPkRp
import Derived.Test.YtfdmdmahddjjmaaGreatDoorPkRm
import Derived.Test.YtfdmdmahddjjmaaGreatDoorKImSe
set_option linter.unusedVariables false
set_option linter.unusedSimpArgs false
set_option maxRecDepth 100000
namespace Go.Proofs.YtfdmdmahddjjmaaGreatDoor
open Go.RowKit Own Im
attribute [local go_sem] str_toList str_size
def keyT (x:Cm) (f:Nat) (l:List Ky) (t:Bt):Option (Cm × Bt):=(if (takes [32] t).1 = true then (Im.key 8 (takes [32] t).2).bind fun q=>keysL f (l ++ [q.1]) q.2 else some (l,t)).bind (keysEnd x)
theorem keysL_eq (f:Nat) (l:List Ky) (t:Bt):keysL (f + 1) l t = if (takes [32] t).1 = true then (Im.key 8 (takes [32] t).2).bind fun q=>keysL f (l ++ [q.1]) q.2 else some (l,t):=by
 rw [keysL.eq_def]
theorem sea_ref (x:Cm) (s:Bt):searchF x s = ((signR 32 s).bind fun q=>(Im.key 8 q.2).bind fun r=>keyT x r.2.length [r.1] r.2):=by
 unfold searchF signR
 cases sign [32] s with
 | none=>rfl
 | some q =>
  simp only [Option.bind_some,Option.map_some]
  congr 1
theorem key_end {x:Cm} {f:Nat} {l:List Ky} {t:Bt} (h:Lib.hasPrefix t [32] = false):keyT x f l t = if decide (16 < l.length) = true then none else some ({ x with keys:=l },t):=by
 unfold keyT
 rw [takes_one,h]
 simp only [Bool.false_eq_true,if_false,Option.bind_some]
 unfold keysEnd
 by_cases hl:l.length ≤ 16
 · rw [if_pos hl,if_neg (by simp;omega)]
 · rw [if_neg hl,if_pos (by simp;omega)]
theorem key_on {x:Cm} {f:Nat} {l:List Ky} {t:Bt} (h:Lib.hasPrefix t [32] = true):keyT x (f + 1) l t = (signR 32 t).bind fun q=>(Im.key 8 q.2).bind fun r=>keyT x f (l ++ [r.1]) r.2:=by
 have h2:sign [32] t = some (t.drop 1):=by unfold sign;rw [if_pos h];rfl
 rw [signR_bind,h2,Option.bind_some]
 unfold keyT
 rw [takes_one,h]
 simp only [if_true]
 cases Im.key 8 (t.drop 1) with
 | none=>rfl
 | some q =>
  simp only [Option.bind_some]
  rw [keysL_eq]
set_option maxHeartbeats 4000000 in
theorem rest_search:RestC [83,69,65,82,67,72] (readF 10):=by
 intro b c B s bad x v w h hg hc hv hcb hbB hB hwd hx7 hx8 hx6 hx11
 have hne:c ≠ b:=by omega
 have hcB:c < B:=by omega
 have h1:w.cell? ⟨c,1,none⟩ = some (.string (str [83,69,65,82,67,72])):=by rw [← hwd];exact hc.c1
 have H:=hid h
 have G0:=hid hg
 have K0:=hid hc
 have S0:=hid hv
 have T0:=hid (Two.refl c b w)
 have W0:=hid hwd
 clear h hg hc hv hwd
 obtain ⟨R,hR⟩:∃ R,R = (readF 10) x s:=⟨_,rfl⟩
 rw [← hR]
 have I0:=hid ((Inv.start bad R).to (K':=(signR 32 s).bind fun q=>(Im.key 8 q.2).bind fun r=>keyT x r.2.length [r.1] r.2) fun _=>hR.trans (by show searchF x s = _;exact sea_ref x s))
 have hrun:RunC b 1 atomB:=fun s bad W h=>rrun1_any b s bad W h
 have tok0:Tk 0:=⟨⟩
 have L0:s.length ≤ s.length:=Nat.le_refl _
 have R0:=H
 have hle0:=hid L0
 clear hR
 go_enter Tryz.func36,Tryz.ntmps36
 go_wp2_with (first
  | (go_at_call 34;have t_:Tk 0:=‹Tk 0›;refine (rblank_any b s bad _ R0.out).mono ?_;rintro e w1 ⟨v1,x1,s1,d1,rfl,rfl,r1,l1,o1,t1⟩;have I1:=hid (I0.out.step t1);have L1:=hid (Nat.le_trans l1 hle0.out);have hle1:=L1;have kk1:=K0.out.only o1 hne;have ss1:=S0.out.stays (o1.stays hbB);have tt1:=T0.out.trans (o1.twoUp hcb);have gg1:=G0.out.below o1.low (Nat.le_of_lt hcb);have R1:=hid r1;have K1:=hid kk1;have T1:=hid tt1;have G1:=hid gg1;have S1:=hid ss1;have c11:=kk1.c1;rw [W0.out] at c11;clear r1 l1 o1 t1 kk1 ss1 tt1 gg1 <;> (clear t_ tok0;have tok1:Tk 1:=⟨⟩))
  | (go_at_call 81;have t_:Tk 1:=‹Tk 1›;refine (rkey_top b s1 d1 _ R1.out).mono ?_;rintro e w2 ⟨v2,x2,s2,d2,rfl,n2,r2,l2,o2,t2⟩;obtain ⟨sv2,rfl,n2⟩:=n2;obtain ⟨A2,c2,rfl,-,-⟩:=n2.full;have I2:=hid (I1.out.step t2);have L2:=hid (Nat.le_trans l2 hle1.out);have hle2:=L2;have kk2:=K1.out.only o2 hne;have ss2:=S1.out.stays (o2.stays hbB);have tt2:=T1.out.trans (o2.twoUp hcb);have gg2:=G1.out.below o2.low (Nat.le_of_lt hcb);have R2:=hid r2;have K2:=hid kk2;have T2:=hid tt2;have G2:=hid gg2;have S2:=hid ss2;have z11:=fun ob=>keep_below ((Below.refl w2.heap.size w2).alloc (Nat.le_refl _) ob) rfl kk2.c11;have f11:=fun ob=>keep_below_free ((Below.refl w2.heap.size w2).alloc (Nat.le_refl _) ob) kk2.lt (kk2.free 11);have N2:=hid (n2.mono T1.out.size);clear n2;clear r2 l2 o2 t2 kk2 ss2 tt2 gg2 <;> (clear t_ tok1;have tok2:Tk 2:=⟨⟩)))
 have i2:Inv bad R d2 (keyT x s2.length [x2] s2):=I2.out
 have hl2:=R2.out.len
 have hbw:b < w.heap.size:=by omega
 have hcw:c + 1 ≤ w.heap.size:=by omega
 have a3:Below w2.heap.size w2 (w2.alloc (.cells #[.int .i64 x2.kind,.bool x2.not,.string (str x2.text),.int .i64 x2.n,.slice A2 x2.set.length c2] 39)):=(Below.refl _ _).alloc (Nat.le_refl _) _
 have N3:=hid ((vKeys.one (B:=w.heap.size) w2 x2 A2 x2.set.length c2 T2.out.size N2.out #[.int .i64 x2.kind,.bool x2.not,.string (str x2.text),.int .i64 x2.n,.slice A2 x2.set.length c2] rfl).stays ((setStays _ c 11 (.slice (some ⟨w2.heap.size,0,none⟩) 1 1)).mono hcw))
 have e3:=(S2.out.stays (Below.stays a3)).stays ((setStays _ c 11 (.slice (some ⟨w2.heap.size,0,none⟩) 1 1)).mono hcB)
 have S3:Hid (CmRows B ((w2.alloc (.cells #[.int .i64 x2.kind,.bool x2.not,.string (str x2.text),.int .i64 x2.n,.slice A2 x2.set.length c2] 39)).setCell ⟨c,11,none⟩ (.slice (some ⟨w2.heap.size,0,none⟩) 1 1)) { x with keys:=[x2] } { v with keys:=.slice (some ⟨w2.heap.size,0,none⟩) 1 1 }):=hid ⟨e3.set,e3.names,e3.items,N3.out.mono hB,e3.lit⟩
 have K3:=hid ((K2.out.below a3).set11 (.slice (some ⟨w2.heap.size,0,none⟩) 1 1) [x2])
 have R3:=hid ((R2.out.below a3).near hcb (G2.out.below a3 (Nat.le_of_lt K2.out.lt)) (j:=11) (.slice (some ⟨w2.heap.size,0,none⟩) 1 1))
 have T3:=hid ((T2.out.trans (Two.of (c:=b) a3 (Nat.le_of_lt K2.out.lt))).trans (Two.near _ hcb 11 (.slice (some ⟨w2.heap.size,0,none⟩) 1 1)))
 clear e3 a3
 go_loopw [] (fun wr=>∃ (f:Nat) (l:List Ky) (vk:Value) (t:Bt) (d:Bool),Inv bad R d (keyT x f l t)∧(d = false→t.length ≤ f∧l.length + t.length ≤ 100000001)∧l.length ≤ 100000002∧CmAt wr c { x with keys:=l } { v with keys:=vk }∧CmRows B wr { x with keys:=l } { v with keys:=vk }∧vKeys w.heap.size l vk wr∧RtT wr b t d∧Two c b w wr∧t.length ≤ s.length) (fun wr=>rtM b wr)
 case atStart=>exact ⟨s2.length,[x2],_,s2,d2,i2,fun _=>⟨Nat.le_refl _,by simp;omega⟩,by simp,K3.out,S3.out,N3.out,R3.out,T3.out,L2.out⟩
 case round =>
  obtain ⟨f,l,vk,t,d,hi,hf,hll,hc,hv,hnb,hrt,ht,hl⟩:=hrel
  have NB:=hid hnb
  obtain ⟨xs,hb0,-⟩:=hnb
  obtain ⟨A,cc,rfl,hcc,-,-⟩:=hb0.full
  have JI:=hid hi
  have KC:=hid hc
  have SC:=hid hv
  have RT:=hid hrt
  have TC:=hid ht
  have LC:=hid hl
  have FF:=hid hf
  have c1:=hrt.c1
  have bf:=hrt.free 1
  have c11:=hc.c11
  clear hi hc hv hrt ht hl hf hb0 i2 z11 f11
  obtain ⟨kk,hkk⟩:∃ kk,Lib.hasPrefix t [32] = kk:=⟨_,rfl⟩
  have hse:=fun W hW=>rsees_any 32 32 rfl b t d W hW
  rw [hkk] at hse
  cases d with
  | true =>
   have J2:=hid (JI.out.to (K':=some ({ x with keys:=l },t)) fun h=>by cases h)
   clear hkk
   cases kk
   all_goals
    go_wp2_with (go_at_call 33;refine (hse _ RT.out).mono ?_;rintro e w4 ⟨rfl,he⟩;obtain rfl:=he.symm)
    go_end0
    have o9:=Only.set wr b 1 (.bool true)
    exact ⟨{ x with keys:=l },t,true,{ v with keys:=.slice A l.length cc },rfl,TC.out.trans (o9.twoUp hcb),RT.out.set1 true,LC.out,KC.out.only o9 hne,SC.out.stays (o9.stays hbB),J2.out.out,rfl⟩
  | false =>
   cases kk with
   | false =>
    obtain ⟨E,hE⟩:∃ E,decide (16 < l.length) = E:=⟨_,rfl⟩
    have hE2:decide ((16:Int) < (l.length:Int)) = E:=by rw [← hE];by_cases h:16 < l.length <;> simp at h ⊢ <;> omega
    have j2:=JI.out.to fun _=>key_end hkk
    rw [hE] at j2
    have J2:=hid j2.guard
    clear hkk hE j2
    cases E
    all_goals
     go_wp2_with (go_at_call 33;refine (hse _ RT.out).mono ?_;rintro e w4 ⟨rfl,he⟩;obtain rfl:=he.symm)
     go_end0
    · have o9:=Only.set wr b 1 (.bool false)
      exact ⟨{ x with keys:=l },t,false,{ v with keys:=.slice A l.length cc },rfl,TC.out.trans (o9.twoUp hcb),RT.out.set1 false,LC.out,KC.out.only o9 hne,SC.out.stays (o9.stays hbB),J2.out.out,rfl⟩
    · have o9:=Only.set wr b 1 (.bool true)
      exact ⟨{ x with keys:=l },t,true,{ v with keys:=.slice A l.length cc },rfl,TC.out.trans (o9.twoUp hcb),RT.out.set1 true,LC.out,KC.out.only o9 hne,SC.out.stays (o9.stays hbB),J2.out.out,rfl⟩
   | true =>
    have hpos:=prefix_pos hkk
    have hff:=FF.out rfl
    obtain ⟨f,rfl⟩:∃ g,f = g + 1:=⟨f - 1,by omega⟩
    have J2:=hid (JI.out.to fun _=>key_on hkk)
    have HF:=hid hff
    have hmw:=rtM_false RT.out
    have hl9:l.length ≤ 1000000000:=by omega
    clear hkk hff FF
    go_wp2_with (first
     | (go_at_call 33;refine (hse _ RT.out).mono ?_;rintro e w4 ⟨rfl,he⟩;obtain rfl:=he.symm)
     | (go_at_call 34;refine (rblank_any b t false _ RT.out).mono ?_;rintro e w12 ⟨v12,a12,s12,d12,rfl,rfl,r12,l12,o12,t12⟩;have k12:=KC.out.only o12 hne;have i0:w12.drew.cell? ⟨c,11,none⟩ = some (.slice A l.length cc):=k12.c11;have K12:=hid k12;have R12:=hid r12;have L12:=hid (Nat.le_trans l12 LC.out);have S12:=hid (SC.out.stays (o12.stays hbB));have N12:=hid (NB.out.stays (o12.stays hbw));have T12:=hid (TC.out.trans (o12.twoUp hcb));have I12:=hid (J2.out.step t12);have Z12:=hid t12;clear k12 r12 l12 o12 t12))
    refine wp_region_held_drew (S:=fun _=>True) (by kernel_rfl) trivial (fun hHeld=>?_)
    refine wpAnyH_take (i:=0) (oi:=_) (v:=?vv0) rfl (by kernel_rfl) (by kernel_rfl) (by kernel_rfl) (fun _ _ _ h=>h) (Or.inl ⟨by rfl,?yv0⟩) (by assumption) ?rv0
    case yv0=>(intro w hSw;(try dsimp only at hSw);go_simp;try with_reducible rfl)
    try simp only [sxa,sxb,sxc,Act.put,sxd,sxe,sxf]
    refine wpAnyH_take (i:=1) (oi:=_) (v:=?vv1) rfl (by kernel_rfl) (by kernel_rfl) (by kernel_rfl) (fun _ _ _ h=>h) (Or.inl ⟨by rfl,?yv1⟩) (by assumption) ?rv1
    case yv1=>(intro w hSw;(try dsimp only at hSw);go_simp;try with_reducible rfl)
    try simp only [sxa,sxb,sxc,Act.put,sxd,sxe,sxf]
    refine wpAnyH_take (i:=2) (oi:=_) (v:=?vv2) rfl (by kernel_rfl) (by kernel_rfl) (by kernel_rfl) (fun _ _ _ h=>h) (Or.inl ⟨by rfl,?yv2⟩) (by assumption) ?rv2
    case yv2=>(intro w hSw;(try dsimp only at hSw);go_simp;try with_reducible rfl)
    try simp only [sxa,sxb,sxc,Act.put,sxd,sxe,sxf]
    refine wpAnyH_take (i:=3) (oi:=_) (v:=?vv3) rfl (by kernel_rfl) (by kernel_rfl) (by kernel_rfl) (fun _ _ _ h=>h) (Or.inl ⟨by rfl,?yv3⟩) (by assumption) ?rv3
    case yv3=>(intro w hSw;(try dsimp only at hSw);go_simp;try with_reducible rfl)
    try simp only [sxa,sxb,sxc,Act.put,sxd,sxe,sxf]
    refine wpAnyH_take (i:=5) (oi:=_) (v:=?vv5) rfl (by kernel_rfl) (by kernel_rfl) (by kernel_rfl) (fun _ _ _ h=>h) (Or.inl ⟨by rfl,?yv5⟩) (by assumption) ?rv5
    case yv5=>(intro w hSw;(try dsimp only at hSw);go_simp;try with_reducible rfl)
    try simp only [sxa,sxb,sxc,Act.put,sxd,sxe,sxf]
    refine wpAnyH_ready (rs:=[4,6]) (by kernel_rfl) (by simp) ?_
    refine AllReadyH.cons (o:=_) rfl (fun K hK=>?_) (AllReadyH.cons (o:=_) rfl (fun K hK=>?_) AllReadyH.nil)
    · go_simp
      refine hK.out _ _ trivial (fun hHeld=>?_)
      clear hK K hHeld
      have hHeld:True:=trivial
      try simp only [sxa,sxb,sxc,Act.put,sxd,sxe,sxf]
      refine wpAnyH_ready (rs:=[6]) (by kernel_rfl) (by simp) ?_
      refine AllReadyH.cons (o:=_) rfl (fun K hK=>?_) AllReadyH.nil
      go_simp
      refine (rkey_top b s12 d12 _ R12.out.drew).mono ?_
      rintro e w6 ⟨v6,k6,s6,d6,rfl,n6,r6,l6,o6,t6⟩
      obtain ⟨sv6,rfl,n6⟩:=n6
      obtain ⟨A6,c6,rfl,-,-⟩:=n6.full
      have D6:=Only.trans (Only.of (Below.refl w12.heap.size w12).drew (Nat.le_of_lt R12.out.lt)) o6
      have k6_:=K12.out.only D6 hne
      have i6:w6.cell? ⟨c,11,none⟩ = some (.slice A l.length cc):=k6_.c11
      have i7:=fun ob=>keep_below ((Below.refl w6.heap.size w6).alloc (Nat.le_refl _) ob) rfl i6
      have S6:=hid (S12.out.stays (D6.stays hbB))
      have B6:=hid (N12.out.stays (D6.stays hbw))
      have T6:=hid (T12.out.trans (D6.twoUp hcb))
      have N6:=hid (n6.mono (show w.heap.size ≤ w12.drew.heap.size from T12.out.size))
      have R6:=hid r6
      have K6:=hid k6_
      have I6:=hid (I12.out.step t6)
      have L6:=hid l6
      have Z6:=hid t6
      clear r6 o6 k6_ n6 D6 l6 t6
      go_wp2_with fail
      refine hK.out _ _ trivial (fun hHeld=>?_)
      clear hK K hHeld
      have hHeld:True:=trivial
      try simp only [sxa,sxb,sxc,Act.put,sxd,sxe,sxf]
      refine wpAnyH_ready (rs:=[7]) (by kernel_rfl) (by simp) ?_
      refine AllReadyH.cons (o:=_) rfl (fun K hK=>?_) AllReadyH.nil
      go_simp
      refine hK.out _ _ trivial (fun hHeld=>?_)
      clear hK K hHeld
      have hHeld:True:=trivial
      try simp only [sxa,sxb,sxc,Act.put,sxd,sxe,sxf]
      refine wpAnyH_ready (rs:=[8]) (by kernel_rfl) (by simp) ?_
      refine AllReadyH.cons (o:=_) rfl (fun K hK=>?_) AllReadyH.nil
      refine step_kbufG w.heap.size _ (by rfl) _ _ (by rfl) _ l (by rfl) (B6.out.stays (Below.stays ((Below.refl _ _).alloc (Nat.le_refl _) _))) k6 A6 k6.set.length c6 (N6.out.stays (Below.stays ((Below.refl _ _).alloc (Nat.le_refl _) _))) _ 1 (by rfl) (fun j u hu=>lit_cells _ _ _ _ _ (by rfl) j u hu) hl9 ?_
      intro g7 cap7 w7 hb7 hbel7 hg7
      have m7:=((Below.refl w.heap.size w6).alloc T6.out.size _).trans hbel7
      have k7:=K6.out.below' m7 (by omega)
      have i8:=k7.c11
      have j8:=k7.free 11
      have R7:=hid (R6.out.below' m7 hbw)
      have K7:=hid k7
      have B7:=hid hb7
      have S7:=hid ((S6.out.stays (Below.stays ((Below.refl _ _).alloc (Nat.le_refl _) _))).keysGrown hg7 (hb7.mono hB))
      have T7:=hid (T6.out.below m7 hcw (Nat.le_refl _))
      clear hb7 hbel7 hg7 m7 k7
      refine hK.out _ _ trivial (fun hHeld=>?_)
      clear hK K hHeld
      have hHeld:True:=trivial
      try simp only [sxa,sxb,sxc,Act.put,sxd,sxe,sxf]
      refine wpAnyH_take (i:=9) (oi:=_) (v:=?vt4_9) rfl (by kernel_rfl) (by kernel_rfl) (by kernel_rfl) (fun _ _ _ h=>h) (Or.inl ⟨by rfl,?yt4_9⟩) (by assumption) ?rt4_9
      case yt4_9=>(intro w hSw;(try dsimp only at hSw);go_simp;try with_reducible rfl)
      try simp only [sxa,sxb,sxc,Act.put,sxd,sxe,sxf]
      refine wpAnyH_take (i:=10) (oi:=_) (v:=?vt4_10) rfl (by kernel_rfl) (by kernel_rfl) (by kernel_rfl) (fun _ _ _ h=>h) (Or.inl ⟨by rfl,?yt4_10⟩) (by assumption) ?rt4_10
      case yt4_10=>(intro w hSw;(try dsimp only at hSw);go_simp;try with_reducible rfl)
      try simp only [sxa,sxb,sxc,Act.put,sxd,sxe,sxf]
      refine wpAnyH_ready (rs:=[11]) (by kernel_rfl) (by simp) ?_
      refine AllReadyH.cons (o:=_) rfl (fun K hK=>?_) AllReadyH.nil
      go_simp
      refine hK.out _ _ trivial (fun hHeld=>?_)
      clear hK K hHeld
      have hHeld:True:=trivial
      try simp only [sxa,sxb,sxc,Act.put,sxd,sxe,sxf]
      refine wpAnyH_done (by kernel_rfl) ?_ _
      go_wp2_with fail
      have e:=S7.out.stays ((setStays w7 c 11 (.slice (some ⟨g7,0,none⟩) (l.length + 1) cap7)).mono hcB)
      have hR8:=R7.out.near hcb (G0.out.two T7.out) (j:=11) (.slice (some ⟨g7,0,none⟩) (l.length + 1) cap7)
      have hfl:d6 = false→s6.length + 1 ≤ t.length:=fun hd=>by
       have h9:d12 = false:=by
        cases hd9:d12 with
        | false=>rfl
        | true=>rw [hd9] at Z6;have h0:=Z6.out.1 rfl;rw [hd] at h0;cases h0
       have h8:=signR_len (Z12.out.2.2 rfl h9)
       have:=L6.out
       omega
      refine ⟨⟨f,l ++ [k6],.slice (some ⟨g7,0,none⟩) (l.length + 1) cap7,s6,d6,I6.out,fun hd=>?_,?_,K7.out.set11 _ (l ++ [k6]),⟨e.set,e.names,e.items,e.keys,e.lit⟩,B7.out.stays ((setStays _ _ _ _).mono hcw),hR8,T7.out.trans (Two.near _ hcb _ _),?_⟩,?_⟩
      · have:=hfl hd
        have:=HF.out
        simp only [List.length_append,List.length_cons,List.length_nil]
        omega
      · have:=HF.out
        simp only [List.length_append,List.length_cons,List.length_nil]
        omega
      · have:=L6.out
        have:=L12.out
        omega
      · rw [hmw]
        cases hd:d6 with
        | true=>rw [hd] at hR8;rw [rtM_true hR8];omega
        | false=>have:=hfl hd;rw [hd] at hR8;rw [rtM_false hR8];omega
    · go_simp
      refine (rkey_top b s12 d12 _ R12.out.drew).mono ?_
      rintro e w6 ⟨v6,k6,s6,d6,rfl,n6,r6,l6,o6,t6⟩
      obtain ⟨sv6,rfl,n6⟩:=n6
      obtain ⟨A6,c6,rfl,-,-⟩:=n6.full
      have D6:=Only.trans (Only.of (Below.refl w12.heap.size w12).drew (Nat.le_of_lt R12.out.lt)) o6
      have k6_:=K12.out.only D6 hne
      have i6:w6.cell? ⟨c,11,none⟩ = some (.slice A l.length cc):=k6_.c11
      have i7:=fun ob=>keep_below ((Below.refl w6.heap.size w6).alloc (Nat.le_refl _) ob) rfl i6
      have S6:=hid (S12.out.stays (D6.stays hbB))
      have B6:=hid (N12.out.stays (D6.stays hbw))
      have T6:=hid (T12.out.trans (D6.twoUp hcb))
      have N6:=hid (n6.mono (show w.heap.size ≤ w12.drew.heap.size from T12.out.size))
      have R6:=hid r6
      have K6:=hid k6_
      have I6:=hid (I12.out.step t6)
      have L6:=hid l6
      have Z6:=hid t6
      clear r6 o6 k6_ n6 D6 l6 t6
      go_wp2_with fail
      refine hK.out _ _ trivial (fun hHeld=>?_)
      clear hK K hHeld
      have hHeld:True:=trivial
      try simp only [sxa,sxb,sxc,Act.put,sxd,sxe,sxf]
      refine wpAnyH_ready (rs:=[4,7]) (by kernel_rfl) (by simp) ?_
      refine AllReadyH.cons (o:=_) rfl (fun K hK=>?_) (AllReadyH.cons (o:=_) rfl (fun K hK=>?_) AllReadyH.nil)
      · go_simp
        refine hK.out _ _ trivial (fun hHeld=>?_)
        clear hK K hHeld
        have hHeld:True:=trivial
        try simp only [sxa,sxb,sxc,Act.put,sxd,sxe,sxf]
        refine wpAnyH_ready (rs:=[7]) (by kernel_rfl) (by simp) ?_
        refine AllReadyH.cons (o:=_) rfl (fun K hK=>?_) AllReadyH.nil
        go_simp
        refine hK.out _ _ trivial (fun hHeld=>?_)
        clear hK K hHeld
        have hHeld:True:=trivial
        try simp only [sxa,sxb,sxc,Act.put,sxd,sxe,sxf]
        refine wpAnyH_ready (rs:=[8]) (by kernel_rfl) (by simp) ?_
        refine AllReadyH.cons (o:=_) rfl (fun K hK=>?_) AllReadyH.nil
        refine step_kbufG w.heap.size _ (by rfl) _ _ (by rfl) _ l (by rfl) (B6.out.stays (Below.stays ((Below.refl _ _).alloc (Nat.le_refl _) _))) k6 A6 k6.set.length c6 (N6.out.stays (Below.stays ((Below.refl _ _).alloc (Nat.le_refl _) _))) _ 1 (by rfl) (fun j u hu=>lit_cells _ _ _ _ _ (by rfl) j u hu) hl9 ?_
        intro g7 cap7 w7 hb7 hbel7 hg7
        have m7:=((Below.refl w.heap.size w6).alloc T6.out.size _).trans hbel7
        have k7:=K6.out.below' m7 (by omega)
        have i8:=k7.c11
        have j8:=k7.free 11
        have R7:=hid (R6.out.below' m7 hbw)
        have K7:=hid k7
        have B7:=hid hb7
        have S7:=hid ((S6.out.stays (Below.stays ((Below.refl _ _).alloc (Nat.le_refl _) _))).keysGrown hg7 (hb7.mono hB))
        have T7:=hid (T6.out.below m7 hcw (Nat.le_refl _))
        clear hb7 hbel7 hg7 m7 k7
        refine hK.out _ _ trivial (fun hHeld=>?_)
        clear hK K hHeld
        have hHeld:True:=trivial
        try simp only [sxa,sxb,sxc,Act.put,sxd,sxe,sxf]
        refine wpAnyH_take (i:=9) (oi:=_) (v:=?vt9_9) rfl (by kernel_rfl) (by kernel_rfl) (by kernel_rfl) (fun _ _ _ h=>h) (Or.inl ⟨by rfl,?yt9_9⟩) (by assumption) ?rt9_9
        case yt9_9=>(intro w hSw;(try dsimp only at hSw);go_simp;try with_reducible rfl)
        try simp only [sxa,sxb,sxc,Act.put,sxd,sxe,sxf]
        refine wpAnyH_take (i:=10) (oi:=_) (v:=?vt9_10) rfl (by kernel_rfl) (by kernel_rfl) (by kernel_rfl) (fun _ _ _ h=>h) (Or.inl ⟨by rfl,?yt9_10⟩) (by assumption) ?rt9_10
        case yt9_10=>(intro w hSw;(try dsimp only at hSw);go_simp;try with_reducible rfl)
        try simp only [sxa,sxb,sxc,Act.put,sxd,sxe,sxf]
        refine wpAnyH_ready (rs:=[11]) (by kernel_rfl) (by simp) ?_
        refine AllReadyH.cons (o:=_) rfl (fun K hK=>?_) AllReadyH.nil
        go_simp
        refine hK.out _ _ trivial (fun hHeld=>?_)
        clear hK K hHeld
        have hHeld:True:=trivial
        try simp only [sxa,sxb,sxc,Act.put,sxd,sxe,sxf]
        refine wpAnyH_done (by kernel_rfl) ?_ _
        go_wp2_with fail
        have e:=S7.out.stays ((setStays w7 c 11 (.slice (some ⟨g7,0,none⟩) (l.length + 1) cap7)).mono hcB)
        have hR8:=R7.out.near hcb (G0.out.two T7.out) (j:=11) (.slice (some ⟨g7,0,none⟩) (l.length + 1) cap7)
        have hfl:d6 = false→s6.length + 1 ≤ t.length:=fun hd=>by
         have h9:d12 = false:=by
          cases hd9:d12 with
          | false=>rfl
          | true=>rw [hd9] at Z6;have h0:=Z6.out.1 rfl;rw [hd] at h0;cases h0
         have h8:=signR_len (Z12.out.2.2 rfl h9)
         have:=L6.out
         omega
        refine ⟨⟨f,l ++ [k6],.slice (some ⟨g7,0,none⟩) (l.length + 1) cap7,s6,d6,I6.out,fun hd=>?_,?_,K7.out.set11 _ (l ++ [k6]),⟨e.set,e.names,e.items,e.keys,e.lit⟩,B7.out.stays ((setStays _ _ _ _).mono hcw),hR8,T7.out.trans (Two.near _ hcb _ _),?_⟩,?_⟩
        · have:=hfl hd
          have:=HF.out
          simp only [List.length_append,List.length_cons,List.length_nil]
          omega
        · have:=HF.out
          simp only [List.length_append,List.length_cons,List.length_nil]
          omega
        · have:=L6.out
          have:=L12.out
          omega
        · rw [hmw]
          cases hd:d6 with
          | true=>rw [hd] at hR8;rw [rtM_true hR8];omega
          | false=>have:=hfl hd;rw [hd] at hR8;rw [rtM_false hR8];omega
      · go_simp
        refine hK.out _ _ trivial (fun hHeld=>?_)
        clear hK K hHeld
        have hHeld:True:=trivial
        try simp only [sxa,sxb,sxc,Act.put,sxd,sxe,sxf]
        refine wpAnyH_ready (rs:=[4]) (by kernel_rfl) (by simp) ?_
        refine AllReadyH.cons (o:=_) rfl (fun K hK=>?_) AllReadyH.nil
        go_simp
        refine hK.out _ _ trivial (fun hHeld=>?_)
        clear hK K hHeld
        have hHeld:True:=trivial
        try simp only [sxa,sxb,sxc,Act.put,sxd,sxe,sxf]
        refine wpAnyH_ready (rs:=[8]) (by kernel_rfl) (by simp) ?_
        refine AllReadyH.cons (o:=_) rfl (fun K hK=>?_) AllReadyH.nil
        refine step_kbufG w.heap.size _ (by rfl) _ _ (by rfl) _ l (by rfl) (B6.out.stays (Below.stays ((Below.refl _ _).alloc (Nat.le_refl _) _))) k6 A6 k6.set.length c6 (N6.out.stays (Below.stays ((Below.refl _ _).alloc (Nat.le_refl _) _))) _ 1 (by rfl) (fun j u hu=>lit_cells _ _ _ _ _ (by rfl) j u hu) hl9 ?_
        intro g7 cap7 w7 hb7 hbel7 hg7
        have m7:=((Below.refl w.heap.size w6).alloc T6.out.size _).trans hbel7
        have k7:=K6.out.below' m7 (by omega)
        have i8:=k7.c11
        have j8:=k7.free 11
        have R7:=hid (R6.out.below' m7 hbw)
        have K7:=hid k7
        have B7:=hid hb7
        have S7:=hid ((S6.out.stays (Below.stays ((Below.refl _ _).alloc (Nat.le_refl _) _))).keysGrown hg7 (hb7.mono hB))
        have T7:=hid (T6.out.below m7 hcw (Nat.le_refl _))
        clear hb7 hbel7 hg7 m7 k7
        refine hK.out _ _ trivial (fun hHeld=>?_)
        clear hK K hHeld
        have hHeld:True:=trivial
        try simp only [sxa,sxb,sxc,Act.put,sxd,sxe,sxf]
        refine wpAnyH_take (i:=9) (oi:=_) (v:=?vt13_9) rfl (by kernel_rfl) (by kernel_rfl) (by kernel_rfl) (fun _ _ _ h=>h) (Or.inl ⟨by rfl,?yt13_9⟩) (by assumption) ?rt13_9
        case yt13_9=>(intro w hSw;(try dsimp only at hSw);go_simp;try with_reducible rfl)
        try simp only [sxa,sxb,sxc,Act.put,sxd,sxe,sxf]
        refine wpAnyH_take (i:=10) (oi:=_) (v:=?vt13_10) rfl (by kernel_rfl) (by kernel_rfl) (by kernel_rfl) (fun _ _ _ h=>h) (Or.inl ⟨by rfl,?yt13_10⟩) (by assumption) ?rt13_10
        case yt13_10=>(intro w hSw;(try dsimp only at hSw);go_simp;try with_reducible rfl)
        try simp only [sxa,sxb,sxc,Act.put,sxd,sxe,sxf]
        refine wpAnyH_ready (rs:=[11]) (by kernel_rfl) (by simp) ?_
        refine AllReadyH.cons (o:=_) rfl (fun K hK=>?_) AllReadyH.nil
        go_simp
        refine hK.out _ _ trivial (fun hHeld=>?_)
        clear hK K hHeld
        have hHeld:True:=trivial
        try simp only [sxa,sxb,sxc,Act.put,sxd,sxe,sxf]
        refine wpAnyH_done (by kernel_rfl) ?_ _
        go_wp2_with fail
        have e:=S7.out.stays ((setStays w7 c 11 (.slice (some ⟨g7,0,none⟩) (l.length + 1) cap7)).mono hcB)
        have hR8:=R7.out.near hcb (G0.out.two T7.out) (j:=11) (.slice (some ⟨g7,0,none⟩) (l.length + 1) cap7)
        have hfl:d6 = false→s6.length + 1 ≤ t.length:=fun hd=>by
         have h9:d12 = false:=by
          cases hd9:d12 with
          | false=>rfl
          | true=>rw [hd9] at Z6;have h0:=Z6.out.1 rfl;rw [hd] at h0;cases h0
         have h8:=signR_len (Z12.out.2.2 rfl h9)
         have:=L6.out
         omega
        refine ⟨⟨f,l ++ [k6],.slice (some ⟨g7,0,none⟩) (l.length + 1) cap7,s6,d6,I6.out,fun hd=>?_,?_,K7.out.set11 _ (l ++ [k6]),⟨e.set,e.names,e.items,e.keys,e.lit⟩,B7.out.stays ((setStays _ _ _ _).mono hcw),hR8,T7.out.trans (Two.near _ hcb _ _),?_⟩,?_⟩
        · have:=hfl hd
          have:=HF.out
          simp only [List.length_append,List.length_cons,List.length_nil]
          omega
        · have:=HF.out
          simp only [List.length_append,List.length_cons,List.length_nil]
          omega
        · have:=L6.out
          have:=L12.out
          omega
        · rw [hmw]
          cases hd:d6 with
          | true=>rw [hd] at hR8;rw [rtM_true hR8];omega
          | false=>have:=hfl hd;rw [hd] at hR8;rw [rtM_false hR8];omega
end Go.Proofs.YtfdmdmahddjjmaaGreatDoor
